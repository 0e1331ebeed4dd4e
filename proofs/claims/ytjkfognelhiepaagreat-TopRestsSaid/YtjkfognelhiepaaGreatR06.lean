import Derived.Test.YtjkfognelhiepaaGreatR05
namespace Go.Proofs.YtjkfognelhiepaaGreat
open Go.RowKit _root_.Go.Proofs.Tryz
open Value renaming slice→S_,int→I_,bool→B_,string→T_,pointer→P_
open IntKind renaming i64→J_
open Obj renaming cells→C_
open Ending renaming returned→R_
set_option maxRecDepth 100000
set_option maxHeartbeats 8000000
variable{B cap n:Nat}{a:Option Addr}{l:List Nat}{w:World}
theorem Zt0:(prog.info? 299).map (λi=>(i.zero,i.size,i.bytes))=some (some (.agg #[I_ J_ 0,I_ J_ 0]),2,16):=ZK
theorem Zto:(prog.info? 9).map (λi=>(i.zero,i.size,i.bytes))=some (some (T_ ⟨#[]⟩),1,16):=ZK
def Zno(C:Con)(w:World)(r:Ending)(w':World):Prop:=∃v0 v1,r=R_ (.agg (Zbi C v0 v1))/\w'.ownsRow w.heap.size 9 1 v0 C.s0.length (C.s0.map Value.string)/\w'.ownsRow w.heap.size 9 1 v1 C.s1.length (C.s1.map Value.string)/\L_ w w'
theorem ZcO{pc sz i:Nat}{e t:TypeId}{cs:Array Value}{v u:Value}{xs:List Value}(h:w.ownsRow B e sz v n xs)(hb:Blk w pc t cs)(dR:e≠t):(w.setCell ⟨pc,i,none⟩ u).ownsRow B e sz v n xs :=
 Zi h (λg hg _=>Below.heap_setCell _ _ _ _ (λhe=>Zr h hb dR (by rw[hg,he])))
theorem Zbm{c sz:Nat}{e:TypeId}{xs:List Value}(h:w.ownsRow B e sz (S_ a n c) n xs)(hn:0<n):∃g,a=some ⟨g,0,none⟩/\g<w.heap.size/\∀k,k<xs.length->w.cell? ⟨g,k,none⟩=xs[k]? := by
 rcases h.2 with ⟨h0,h1⟩|⟨g,cap,cur,h0,hb,hg,fp,iK,gC,ii⟩
 ·omega
 ·injection h0 with h0 _ _
  refine⟨g,h0,Blk.lt (t:=e) hg,λk hk=>?_⟩;rw[Blk.cell (t:=e) hg,←ii,List.getElem?_take_of_lt (by have:=h.1;omega),Array.getElem?_toList]
theorem ZiY{g sz:Nat}{e:TypeId}{v:Value}{xs:List Value}(h:w.ownsRow B e sz v n xs)(hg:v.ownBlock≠some g)(i:Nat)(vs:List Value):(setAll w g i vs).ownsRow B e sz v n xs :=
 Zi h (λk h1 _=>Zai (λe=>hg (by rw[h1,e])) vs i w)
theorem Zi4:∀(es:List Ev) (k:Nat) (e:Ev),es[k]? = some e->(ZbH es)[k*2]? = some (I_ J_ (e.height:Int))/\(ZbH es)[k*2+1]? = some (I_ J_ (e.r:Int))
 | [],k,e,h=>by simp at h
 |x::es,0,e,h=>by
  simp at h;subst h;simp[ZbH]
 |x::es,k+1,e,h=>by
  have ih:=Zi4 es k e (by simpa using h);simp only[ZbH,List.flatMap_cons]at ih ⊢;have e1:(k+1)*2=k*2+2:=ZO;rw[e1];exact ih
theorem Zkh{c:Nat}{es:List Ev}(h:w.ownsRow B 299 2 (S_ a es.length c) es.length (ZbH es))(hn:0<es.length):∃g,a=some ⟨g,0,none⟩/\Zp7 w g 0 es.length (Zdu es):=by
 obtain⟨g,h0,hg,hc⟩:=Zbm h hn;refine⟨g,h0,hg,by simp[Zdu],λi hi=>?_⟩;obtain⟨x,hx⟩:∃x,es[i]? = some x:=⟨_,ZX hi⟩;obtain⟨q1,q2⟩:=Zi4 es i x hx;have e1:(Zdu es).getD i (0,0)=((x.height:Int),(x.r:Int)):=by simp[Zdu,List.getD,hx]
 have hl:=Zn2 es;rw[Nat.zero_add,hc _ ZO,hc _ ZO,q1,q2,e1];exact⟨rfl,rfl⟩
theorem ZoG(es:List Ev):Zb0 es=(es.map (·.value)).map Value.string:=by simp[Zb0]
theorem Znv{ws:List Ev}(h:EvSl w a n cap ws)(hn:n<=100)(key:ByteArray):
  Calls prog 157 #[T_ key,S_ a n cap] w (Zno (Za2 key ws) w):=by
 have gb:=ZH (h.2.2.1);obtain⟨s0,SG,SD,SE,SF⟩:=info_parts Zt0;obtain⟨s1,Ei,Ef,Eg,Eh⟩:=info_parts Zto;obtain⟨eh,HP,HC,HS⟩:=ZH4 (ZbT w (C_ (Zbi (Zbs ⟨#[]⟩ ws 0) (S_ none 0 0) (S_ none 0 0)) 66) (C_ (Zbi (Zbs key ws 0) (S_ none 0 0) (S_ none 0 0)) 66)) ((ZBn w 66 (Zbi (Zbs ⟨#[]⟩ ws 0) (S_ none 0 0) (S_ none 0 0))).alloc (C_ (Zbi (Zbs key ws 0) (S_ none 0 0) (S_ none 0 0)) 66)) (Zag w (C_ (Zbi (Zbs ⟨#[]⟩ ws 0) (S_ none 0 0) (S_ none 0 0)) 66) 66 (Zbi (Zbs key ws 0) (S_ none 0 0) (S_ none 0 0))) h;clear h;go_enter func157,ntmps157;go_wp2_with fail;go_loopw [14] (λi wr=>∃(k:Nat) (v0 v1:Value),((k=0/\i=I_ J_ 0)∨(k=1/\i=I_ J_ 1)∨(k=2/\i=I_ J_ 2))/\Hid (Blk wr (w.heap.size+1) 66 (Zbi (Zbs key ws k) v0 v1))/\Hid (Blk wr w.heap.size 66 (Zbi (Zbs ⟨#[]⟩ ws 0) (S_ none 0 0) (S_ none 0 0)))/\Hid (wr.ownsRow w.heap.size 9 1 v0 (Zbs key ws k).s0.length ((Zbs key ws k).s0.map Value.string))/\Hid (wr.ownsRow w.heap.size 9 1 v1 (Zbs key ws k).s1.length ((Zbs key ws k).s1.map Value.string))/\Hid (Kept w.heap.size w wr)) (λi _=>2-(intOf i).toNat)
 case atStart=>exact⟨0,_,_,.inl ⟨rfl,rfl⟩,HC,HP,ZH ⟨rfl,.inl ⟨rfl,rfl⟩⟩,ZH ⟨rfl,.inl ⟨rfl,rfl⟩⟩,ZH (Kept.start eh.out)⟩
 case round =>
  skip
  obtain⟨k,v0,v1,hk,yQ,zb,zh,zi,yW⟩:=hrel;obtain⟨W,VF⟩:∃W,W=wr:=⟨_,rfl⟩;subst VF;have HW:=ZH (HS.out.below yW.out.below);rcases hk with ⟨rfl,rfl⟩|⟨rfl,rfl⟩|⟨rfl,rfl⟩
  ·go_wp2_with fail;go_loopw [7,8,9,19] (λv7 v8 v9 i wr=>∃q:Nat,q<=n/\i=I_ J_ q/\Hid (wr.ownsRow W.heap.size 299 2 v7 (Zm (ws.take q) key 0).length (ZbH (Zm (ws.take q) key 0)))/\Hid (wr.ownsRow W.heap.size 9 1 v8 (Zm (ws.take q) key 0).length (Zb0 (Zm (ws.take q) key 0)))/\Hid (wr.ownsRow W.heap.size 9 1 v9 (Z3 (ws.take q) key 0).length (Zb0 (Z3 (ws.take q) key 0)))/\Hid (Apart v8 v9)/\Hid (Kept W.heap.size W wr)) (λ_ _ _ i _=>n-(intOf i).toNat)
   case atStart=>exact⟨0,Nat.zero_le _,rfl,ZH ⟨rfl,.inl ⟨rfl,rfl⟩⟩,ZH ⟨rfl,.inl ⟨rfl,rfl⟩⟩,ZH ⟨rfl,.inl ⟨rfl,rfl⟩⟩,ZH (ZhG _ _ _),ZH (ZKr W)⟩
   case round =>
    obtain⟨q,hq,rfl,H7,H8,H9,nU,HK⟩:=hrel;by_cases du:q<n
    ·obtain⟨e,he⟩:∃e,ws[q]? = some e:=⟨_,ZX (by rw[gb.out];exact du)⟩;have hs:=HW.out.of_same (w':=wr) (λad _ hl=>HK.out.below.block _ hl) HK.out.le;obtain⟨bk,off,rfl,cW,c0,c1,c2,c3,c4,c5,c6,c7,c8,c9,dg,dh⟩:=hs.at_ he;have vC:Zm (ws.take (q+1)) key 0=Zm (ws.take q) key 0++if (decide (e.key=key)&&decide (e.label=0)&&decide (e.kind=3))=true then [e] else []:=by
      rw[Zan he];simp only[Zm,Zct,List.filter_append,List.filter_cons,List.filter_nil];by_cases h1:e.key=key <;> by_cases h2:e.label=0 <;> by_cases h3:e.kind=3 <;> simp[h1,h2,h3]
     have Gh:Z3 (ws.take (q+1)) key 0=Z3 (ws.take q) key 0++if (decide (e.key=key)&&decide (e.label=0) && !decide (e.kind=3))=true then [e] else []:=by
      rw[Zan he];simp only[Z3,Zct,List.filter_append,List.filter_cons,List.filter_nil];by_cases h1:e.key=key <;> by_cases h2:e.label=0 <;> by_cases h3:e.kind=3 <;> simp[h1,h2,h3]
     have Hq:(Zm (ws.take q) key 0).length<=1000:=by
      have h1:=List.length_filter_le (λe:Ev=>decide (e.kind=3)) (Zct (ws.take q) key 0);have h2:=List.length_filter_le (λe:Ev=>decide (e.key=key)&&decide (e.label=0)) (ws.take q);have h3:(ws.take q).length<=q:=by rw[ZV];omega
      unfold Zm;unfold Zct at h1 ⊢;omega
     have CD:(Z3 (ws.take q) key 0).length<=1000:=by
      have h1:=List.length_filter_le (λe:Ev => !decide (e.kind=3)) (Zct (ws.take q) key 0);have h2:=List.length_filter_le (λe:Ev=>decide (e.key=key)&&decide (e.label=0)) (ws.take q);have h3:(ws.take q).length<=q:=by rw[ZV];omega
      unfold Z3;unfold Zct at h1 ⊢;omega
     obtain⟨a7,k7,rfl⟩:=Zl H7.out;obtain⟨a8,k8,rfl⟩:=Zl H8.out;obtain⟨a9,k9,rfl⟩:=Zl H9.out;have fQ:=(ZW wr.heap.size wr).alloc (ZL _) (C_ (evArr e) 89);have cX:=HK.out.alloc (C_ (evArr e) 89);have FJ:=Ze H7.out fQ;have FO:=Ze H8.out fQ;have FT:=Ze H9.out fQ;have zq:=ZBn wr 89 (evArr e);obtain⟨ji,oZ,cO,wJ,wK,s6,oL⟩:=ZH7 vC Gh cX FJ FO FT zq;clear hs he vC Gh cX FJ FO FT zq fQ;by_cases fc:e.key=key
     ·have Nk:(e.key.toList != key.toList)=false:=by simp[fc]
      have Nl:(e.key.toList==key.toList)=true:=by simp[fc]
      by_cases gu:e.label=0
      ·have Nm:((e.label:Int) != 0)=false:=by simp[gu]
       by_cases h3:e.kind=3
       ·have b3:((e.kind:Int)==3)=true:=by simp[h3]
        rw[ZPp (by simp[fc,gu,h3])]at ji;rw[ZPn (by simp[h3]),List.append_nil]at oZ;clear fc gu h3;have gZ:=Ze wJ.out ((ZW _ _).alloc (ZL _) (C_ #[I_ J_ (e.height:Int),I_ J_ (e.r:Int)] 299));have uv:=Ze wK.out ((ZW _ _).alloc (ZL _) (C_ #[I_ J_ (e.height:Int),I_ J_ (e.r:Int)] 299));have ux:=Ze s6.out ((ZW _ _).alloc (ZL _) (C_ #[I_ J_ (e.height:Int),I_ J_ (e.r:Int)] 299));have dM:=cO.out.alloc (C_ #[I_ J_ (e.height:Int),I_ J_ (e.r:Int)] 299);have pn:=oL.out.alloc (C_ #[I_ J_ (e.height:Int),I_ J_ (e.r:Int)] 299);have fu:Reads ((wr.alloc (C_ (evArr e) 89)).alloc (C_ #[I_ J_ (e.height:Int),I_ J_ (e.r:Int)] 299)) _ 2 (some ⟨wr.heap.size+1,0,none⟩) 1 [I_ J_ (e.height:Int),I_ J_ (e.r:Int)]:=Reads.aA (Zag wr _ _ _) rfl;have eB:=dM.le;obtain⟨dO,tx,wL,dw,wY,iT⟩:=ZH6 gZ uv ux dM pn fu
        have gn:Hid (∀u∈[Value.int .i64 (e.height:Int),I_ J_ (e.r:Int)],u.oneCell'=true):=ZH (λu hu=>by
         simp at hu
         rcases hu with rfl|rfl <;> rfl)
        clear gZ uv ux dM pn fu
        go_wp2_with (first
         |(at_builtin
           refine Zc _ rfl (.tmp 36) (.tmp 42) _ rfl W.heap.size 299 s0 _ 2 16 underlying297 SG SD SE SF rfl ZO (S_ a7 (Zm (ws.take q) key 0).length k7) (Zm (ws.take q) key 0).length (ZbH (Zm (ws.take q) key 0)) rfl dO.out (_) (some ⟨wr.heap.size+1,0,none⟩) 1 1 [I_ J_ (e.height:Int),I_ J_ (e.r:Int)] rfl (iT.out) (gn.out) ZF ZO eB ?_;intro JA wx mN nB BQ;obtain⟨ax,kx,rfl⟩:=Zl mN;have BO:=Za6 tx.out dO.out ZJ;have oO:=Za6 wL.out dO.out ZJ;have FP:=ZaK tx.out nB BO;have FU:=ZaK wL.out nB oO;have qJ:=Zdk wY.out dO.out ZJ nB;have eM:Kept W.heap.size W wx:=⟨dw.out.below.grown nB dw.out.le (λg hg=>(Zb dO.out hg).1),ZT dw.out.le nB.size⟩;have FM:wx.ownsRow W.heap.size 299 2 (S_ ax ((Zm (ws.take q) key 0).length+1) kx) (Zm (ws.take (q+1)) key 0).length (ZbH (Zm (ws.take (q+1)) key 0)):=by
            have e1:ZbH (Zm (ws.take q) key 0++[e])=ZbH (Zm (ws.take q) key 0)++[I_ J_ (e.height:Int),I_ J_ (e.r:Int)]:=by simp[ZbH]
            rw[ji.out,e1,ZI];exact mN
           obtain⟨x0,x1,x2,x3,x4,x5,x6,x7,x8,x9,fh,fi⟩:=qJ.ag;have ko:=qJ.lt;obtain⟨KI,KK,KL,fN⟩:=ZH4 FM FP FU eM;clear BO oO FP FU qJ eM FM mN nB BQ;have mJ:=(fN.out.alloc (C_ #[T_ e.value] 9)).le;have Ht:=Ze KK.out ((ZW _ _).alloc (ZL _) (C_ #[T_ e.value] 9));have nY:=ZH Ht;have qz:Hid (Reads (wx.alloc (C_ #[T_ e.value] 9)) _ 1 (some ⟨wx.heap.size,0,none⟩) 1 [T_ e.value]):=ZH (Reads.aA (ZBn wx 9 #[T_ e.value]) rfl)
           have mg:Hid (∀u∈[Value.string e.value],u.oneCell'=true):=ZH (λu hu=>by
            simp at hu;subst hu
            rfl)
           clear Ht)
         |(at_builtin
           refine Zc _ rfl (.tmp 44) (.tmp 47) _ rfl W.heap.size 9 s1 _ 1 16 underlying63 Ei Ef Eg Eh rfl ZO (S_ a8 (Zm (ws.take q) key 0).length k8) (Zm (ws.take q) key 0).length (Zb0 (Zm (ws.take q) key 0)) rfl nY.out (_) (some ⟨wx.heap.size,0,none⟩) 1 1 [T_ e.value] rfl (qz.out) (mg.out) ZF ZO mJ ?_;intro JA wy gw mH my
           obtain⟨ay,ky,rfl⟩:=Zl gw))
        have it:=Ze KI.out ((ZW wx.heap.size wx).alloc (ZL _) (C_ #[T_ e.value] 9));have BH:=Ze KL.out ((ZW wx.heap.size wx).alloc (ZL _) (C_ #[T_ e.value] 9));have uu:=ZaK it mH (Za6 it nY.out ZJ);have uy:=ZaK BH mH nU.out.symm;have mZ:=Zfd nU.out BH my;have uw:wy.ownsRow W.heap.size 9 1 (S_ ay ((Zm (ws.take q) key 0).length+1) ky) (Zm (ws.take (q+1)) key 0).length (Zb0 (Zm (ws.take (q+1)) key 0)):=by
         have e1:Zb0 (Zm (ws.take q) key 0++[e])=Zb0 (Zm (ws.take q) key 0)++[T_ e.value]:=by simp[Zb0]
         rw[ji.out,e1,ZI];exact gw
        have km:Kept W.heap.size W wy:=⟨(fN.out.alloc (C_ #[T_ e.value] 9)).below.grown mH mJ (λg hg=>(Zb nY.out hg).1),ZT mJ mH.size⟩;obtain⟨Ay,Az,AA,qp,nf⟩:=ZH5 uu uw uy mZ km;clear it BH uu uy mZ uw km gw mH my;go_wp2
        go_roundw
        case rel=>exact⟨q+1,ZO,ZN,Ay,Az,by rw[oZ.out];exact AA,qp,nf⟩
        case measure=>simp[intOf];omega
       ·have b3:((e.kind:Int)==3)=false:=ZP;rw[ZPn (by simp[h3]),List.append_nil]at ji;rw[ZPp (by simp[fc,gu,h3])]at oZ;clear fc gu h3;have eB:=(cO.out.alloc (C_ #[T_ e.value] 9)).le;have dM:=cO.out.alloc (C_ #[T_ e.value] 9);have gZ:=Ze s6.out ((ZW _ _).alloc (ZL _) (C_ #[T_ e.value] 9));have FK:=Ze wJ.out ((ZW _ _).alloc (ZL _) (C_ #[T_ e.value] 9));have uv:=Ze wK.out ((ZW _ _).alloc (ZL _) (C_ #[T_ e.value] 9));obtain⟨dO,Ej,tx,dw⟩:=ZH4 gZ FK uv dM;have qz:Hid (Reads ((wr.alloc (C_ (evArr e) 89)).alloc (C_ #[T_ e.value] 9)) _ 1 (some ⟨wr.heap.size+1,0,none⟩) 1 [T_ e.value]):=ZH (Reads.aA (Zag wr _ _ _) rfl)
        have mg:Hid (∀u∈[Value.string e.value],u.oneCell'=true):=ZH (λu hu=>by
         simp at hu;subst hu
         rfl)
        clear gZ FK uv dM
        go_wp2_with (first
         |(at_builtin
           refine Zc _ rfl (.tmp 49) (.tmp 52) _ rfl W.heap.size 9 s1 _ 1 16 underlying63 Ei Ef Eg Eh rfl ZO (S_ a9 (Z3 (ws.take q) key 0).length k9) (Z3 (ws.take q) key 0).length (Zb0 (Z3 (ws.take q) key 0)) rfl dO.out (_) (some ⟨wr.heap.size+1,0,none⟩) 1 1 [T_ e.value] rfl (qz.out) (mg.out) ZF ZO eB ?_;intro JA wy gw mH my
           obtain⟨ay,ky,rfl⟩:=Zl gw))
        have uu:=ZaK Ej.out mH (Za6 Ej.out dO.out ZJ);have uw:=ZaK tx.out mH nU.out;have mZ:=(Zfd nU.out.symm tx.out my).symm;have uy:wy.ownsRow W.heap.size 9 1 (S_ ay ((Z3 (ws.take q) key 0).length+1) ky) (Z3 (ws.take (q+1)) key 0).length (Zb0 (Z3 (ws.take (q+1)) key 0)):=by
         have e1:Zb0 (Z3 (ws.take q) key 0++[e])=Zb0 (Z3 (ws.take q) key 0)++[T_ e.value]:=by simp[Zb0]
         rw[oZ.out,e1,ZI];exact gw
        have km:Kept W.heap.size W wy:=⟨dw.out.below.grown mH dw.out.le (λg hg=>(Zb dO.out hg).1),ZT dw.out.le mH.size⟩;obtain⟨Ay,Az,AA,qp,nf⟩:=ZH5 uu uw uy mZ km;clear uu uy mZ uw km gw mH my;go_wp2
        go_roundw
        case rel=>exact⟨q+1,ZO,ZN,by rw[ji.out];exact Ay,by rw[ji.out];exact Az,AA,qp,nf⟩
        case measure=>simp[intOf];omega
      ·have Nm:((e.label:Int) != 0)=true:=ZP;rw[ZPn (by simp[gu]),List.append_nil]at ji;rw[ZPn (by simp[gu]),List.append_nil]at oZ;clear fc gu;go_wp2
       go_roundw
       case rel=>exact⟨q+1,ZO,ZN,by rw[ji.out];exact wJ,by rw[ji.out];exact wK,by rw[oZ.out];exact s6,nU,cO⟩
       case measure=>simp[intOf];omega
     ·have Nk:(e.key.toList != key.toList)=true:=by simp[bne,Zcq,fc]
      have Nl:(e.key.toList==key.toList)=false:=by simp[Zcq,fc]
      rw[ZPn (by simp[fc]),List.append_nil]at ji;rw[ZPn (by simp[fc]),List.append_nil]at oZ;clear fc;go_wp2
      go_roundw
      case rel=>exact⟨q+1,ZO,ZN,by rw[ji.out];exact wJ,by rw[ji.out];exact wK,by rw[oZ.out];exact s6,nU,cO⟩
      case measure=>simp[intOf];omega
    ·obtain rfl:q=n:=ZO;have gN:ws.take q=ws:=ZU (by rw[gb.out];exact ZL _);rw[gN]at H7 H8 H9;obtain⟨a7,k7,rfl⟩:=Zl H7.out;obtain⟨a8,k8,rfl⟩:=Zl H8.out;obtain⟨a9,k9,rfl⟩:=Zl H9.out;have Hq:(Zm ws key 0).length<=100:=by
      have h1:=List.length_filter_le (λe:Ev=>decide (e.kind=3)) (Zct ws key 0);have h2:=List.length_filter_le (λe:Ev=>decide (e.key=key)&&decide (e.label=0)) ws;have h3:=gb.out;unfold Zm;unfold Zct at h1 ⊢;omega
     have CD:(Z3 ws key 0).length<=100:=by
      have h1:=List.length_filter_le (λe:Ev => !decide (e.kind=3)) (Zct ws key 0);have h2:=List.length_filter_le (λe:Ev=>decide (e.key=key)&&decide (e.label=0)) ws;have h3:=gb.out;unfold Z3;unfold Zct at h1 ⊢;omega
     have ES:=ZH CD;have F0:Blk wr (w.heap.size+1) 66 #[T_ key,B_ false,B_ false,T_ ⟨#[]⟩,T_ ⟨#[]⟩,v0,v1]:=yQ.out.below HK.out.below yQ.out.lt;have pQ:Past W.heap.size (w.heap.size+1) W wr:=Past.bA HK.out HK.out.le;obtain⟨nV,o7,wM⟩:=ZH3 F0 pQ H9.out;clear F0 pQ CD;have fG:ZeV ws key 0=Za1 (ZaZ ((Z3 ws key 0).map (·.value))):=rfl;have MJ:=ZH fG;clear fG;by_cases h0:Zm ws key 0=[];focus
      have jD:(Zm ws key 0).length=0:=by rw[h0];rfl
      have zJ:decide ((0:Int)<((Zm ws key 0).length:Int))=false:=by simp[jD]
      have Cl:decide (0<(Zm ws key 0).length)=false:=by simp[jD]
      have uW:Zd7 ws key 0=false:=by simp[Zd7,jD]
      have qf:Zco ws key 0=⟨#[]⟩:=ZhP h0;obtain⟨AQ,rp⟩:=ZH2 uW qf;clear h0 jD uW qf
     rotate_left
     focus
      have eN:0<(Zm ws key 0).length:=List.length_pos_iff.2 h0;have zJ:decide ((0:Int)<((Zm ws key 0).length:Int))=true:=ZP;have Cl:decide (0<(Zm ws key 0).length)=true:=by simp[eN]
      have uW:Zd7 ws key 0=true:=by simp[Zd7,eN]
      obtain⟨m0,m1,m2,m3,m4,m5,m6⟩:=nV.out.seven;have DX:=nV.out.frozen 1;have jE:=nV.out.lt;have FI:=ZcO (i:=1) (u := B_ true) H7.out nV.out ZJ;have FN:=ZcO (i:=1) (u := B_ true) H8.out nV.out ZJ;have FQ:=ZcO (i:=1) (u := B_ true) H9.out nV.out ZJ;have cz:=nV.out.aj 1 (B_ true);have kS:=o7.out.set 1 (B_ true);obtain⟨g7,rfl,eP⟩:=Zkh FI eN;obtain⟨g8,rfl,uT,Gw⟩:=Zbm FN eN;have gv:=Zla g7 0 (Zm ws key 0).length k7 _ _ eN Hq eP;obtain⟨tP,dj,lZ,Dn,vV,AQ,AN⟩:=ZH7 gv cz kS FQ Gw uW uT;clear h0 FI FN FQ cz kS eP gv Gw uW uT;go_wp2_with fail;refine tP.out.mono ?_;rintro _ w4 ⟨ki,rfl,oS,cS⟩;have yf:ki<(Zm ws key 0).length:=by have:=oS.1;simpa [Zdu] using this
      obtain⟨x,hx⟩:∃x,(Zm ws key 0)[ki]? = some x:=⟨_,ZX yf⟩;have qf:Zco ws key 0=x.value:=by simp[Zco,oS.eq,hx]
      have RE:w4.cell? ⟨g8,ki,none⟩=some (T_ x.value):=by
       rw[cS.cell (p:=⟨g8,ki,none⟩) AN.out,vV.out ki (by simp[Zb0];exact yf)];simp[Zb0,hx]
      have On:g8<w4.heap.size:=ZR AN.out cS.size;have mz:=dj.out.ob cS;have vr:=lZ.out.below cS (by have:=lZ.out.size;omega);have ux:=Ze Dn.out cS;have tn:=mz.frozen 3;have yh:=mz.lt;have kn:(ki:Int)<((Zm ws key 0).length:Int):=ZO;have VT:(0:Int)<=(ki:Int):=ZO;obtain⟨m0,m1,m2,m3,m4,m5,m6⟩:=Blk.seven mz;obtain⟨rp,gy,tV,wL⟩:=ZH4 qf mz vr ux;clear oS hx qf cS mz vr ux;go_wp2_with fail;obtain⟨nV,o7,wM⟩:=ZH3 (gy.out.aj 3 (T_ x.value)) (tV.out.set 3 (T_ x.value)) (ZcO (i:=3) (u := T_ x.value) wL.out gy.out ZJ);generalize (w4.setCell ⟨w.heap.size+1,3,none⟩ (T_ x.value))=w5 at *
     rotate_left
     all_goals
      have wD:=ZoG (Z3 ws key 0);have eW:(Z3 ws key 0).length=((Z3 ws key 0).map (·.value)).length:=ZM;have BI:=wM.out;rw[wD,eW]at BI;have jf:=Zjr BI (by rw[←eW];have:=ES.out;omega);rw[←eW]at jf;have pd:=ZH jf;clear wD BI jf eW;go_wp2_with fail;refine pd.out.mono ?_;rintro _ w6 ⟨rfl,sQ,nP⟩;have ry:=Zgd sQ (by rw[ZcC];simp;have:=ES.out;omega);have tD:=ZH ry;have eK:=Zdk nV.out wM.out ZJ nP;have oX:=o7.out.grown nP (by have:=o7.out.size;omega) (λg hg=>(Zb wM.out hg).1);obtain⟨jT,tg,nL⟩:=ZH3 eK oX sQ;clear ry eK oX sQ nP;go_wp2_with fail;refine tD.out.mono ?_;rintro _ w8 ⟨yN,rfl,lx,wt,_⟩;have ga:=Zdk jT.out nL.out ZJ wt;have Hw:=tg.out.grown wt (by have:=tg.out.size;omega) (λg hg=>(Zb nL.out hg).1);obtain⟨m0,m1,m2,m3,m4,m5,m6⟩:=ga.seven;have Cg:=ga.frozen 5;have R5:=ga.lt;obtain⟨o6,A6,ni⟩:=ZH3 ga Hw lx;clear ga Hw lx wt;obtain⟨sj,yL,rfl⟩:=Zl ni.out;go_wp2_with fail;have Gn:=o6.out.aj 5 (S_ sj (Za1 (ZaZ ((Z3 ws key 0).map (·.value)))).length yL);have Hx:=A6.out.set 5 (S_ sj (Za1 (ZaZ ((Z3 ws key 0).map (·.value)))).length yL);have Ip:=ZcO (i:=5) (u := S_ sj (Za1 (ZaZ ((Z3 ws key 0).map (·.value)))).length yL) ni.out o6.out ZJ;obtain⟨wQ,A7,jU⟩:=ZH3 Gn Hx Ip;clear Gn Hx Ip;generalize (w8.setCell ⟨w.heap.size+1,5,none⟩ (S_ sj (Za1 (ZaZ ((Z3 ws key 0).map (·.value)))).length yL))=wE at *;go_wp2
      go_roundw
      case rel =>
       refine⟨1,_,_,.inr (.inl ⟨rfl,ZN⟩),ZH (by have:=wQ.out;simp only[Zbs,AQ.out,rp.out];exact this),ZH (A7.out.blk zb.out (ZL _) ZO),ZH (Zj jU.out yW.out.le),ZH (A7.out.row zi.out (ZL _) yQ.out ZJ),ZH (A7.out.kept yW.out yW.out.le ZO)⟩
      case measure=>simp[intOf]
  ·go_wp2_with fail;go_loopw [7,8,9,19] (λv7 v8 v9 i wr=>∃q:Nat,q<=n/\i=I_ J_ q/\Hid (wr.ownsRow W.heap.size 299 2 v7 (Zm (ws.take q) key 1).length (ZbH (Zm (ws.take q) key 1)))/\Hid (wr.ownsRow W.heap.size 9 1 v8 (Zm (ws.take q) key 1).length (Zb0 (Zm (ws.take q) key 1)))/\Hid (wr.ownsRow W.heap.size 9 1 v9 (Z3 (ws.take q) key 1).length (Zb0 (Z3 (ws.take q) key 1)))/\Hid (Apart v8 v9)/\Hid (Kept W.heap.size W wr)) (λ_ _ _ i _=>n-(intOf i).toNat)
   case atStart=>exact⟨0,Nat.zero_le _,rfl,ZH ⟨rfl,.inl ⟨rfl,rfl⟩⟩,ZH ⟨rfl,.inl ⟨rfl,rfl⟩⟩,ZH ⟨rfl,.inl ⟨rfl,rfl⟩⟩,ZH (ZhG _ _ _),ZH (ZKr W)⟩
   case round =>
    obtain⟨q,hq,rfl,H7,H8,H9,nU,HK⟩:=hrel;by_cases du:q<n
    ·obtain⟨e,he⟩:∃e,ws[q]? = some e:=⟨_,ZX (by rw[gb.out];exact du)⟩;have hs:=HW.out.of_same (w':=wr) (λad _ hl=>HK.out.below.block _ hl) HK.out.le;obtain⟨bk,off,rfl,cW,c0,c1,c2,c3,c4,c5,c6,c7,c8,c9,dg,dh⟩:=hs.at_ he;have vC:Zm (ws.take (q+1)) key 1=Zm (ws.take q) key 1++if (decide (e.key=key)&&decide (e.label=1)&&decide (e.kind=3))=true then [e] else []:=by
      rw[Zan he];simp only[Zm,Zct,List.filter_append,List.filter_cons,List.filter_nil];by_cases h1:e.key=key <;> by_cases h2:e.label=1 <;> by_cases h3:e.kind=3 <;> simp[h1,h2,h3]
     have Gh:Z3 (ws.take (q+1)) key 1=Z3 (ws.take q) key 1++if (decide (e.key=key)&&decide (e.label=1) && !decide (e.kind=3))=true then [e] else []:=by
      rw[Zan he];simp only[Z3,Zct,List.filter_append,List.filter_cons,List.filter_nil];by_cases h1:e.key=key <;> by_cases h2:e.label=1 <;> by_cases h3:e.kind=3 <;> simp[h1,h2,h3]
     have Hq:(Zm (ws.take q) key 1).length<=1000:=by
      have h1:=List.length_filter_le (λe:Ev=>decide (e.kind=3)) (Zct (ws.take q) key 1);have h2:=List.length_filter_le (λe:Ev=>decide (e.key=key)&&decide (e.label=1)) (ws.take q);have h3:(ws.take q).length<=q:=by rw[ZV];omega
      unfold Zm;unfold Zct at h1 ⊢;omega
     have CD:(Z3 (ws.take q) key 1).length<=1000:=by
      have h1:=List.length_filter_le (λe:Ev => !decide (e.kind=3)) (Zct (ws.take q) key 1);have h2:=List.length_filter_le (λe:Ev=>decide (e.key=key)&&decide (e.label=1)) (ws.take q);have h3:(ws.take q).length<=q:=by rw[ZV];omega
      unfold Z3;unfold Zct at h1 ⊢;omega
     obtain⟨a7,k7,rfl⟩:=Zl H7.out;obtain⟨a8,k8,rfl⟩:=Zl H8.out;obtain⟨a9,k9,rfl⟩:=Zl H9.out;have fQ:=(ZW wr.heap.size wr).alloc (ZL _) (C_ (evArr e) 89);have cX:=HK.out.alloc (C_ (evArr e) 89);have FJ:=Ze H7.out fQ;have FO:=Ze H8.out fQ;have FT:=Ze H9.out fQ;have zq:=ZBn wr 89 (evArr e);obtain⟨ji,oZ,cO,wJ,wK,s6,oL⟩:=ZH7 vC Gh cX FJ FO FT zq;clear hs he vC Gh cX FJ FO FT zq fQ;by_cases fc:e.key=key
     ·have Nk:(e.key.toList != key.toList)=false:=by simp[fc]
      have Nl:(e.key.toList==key.toList)=true:=by simp[fc]
      by_cases gu:e.label=1
      ·have Nm:((e.label:Int) != 1)=false:=by simp[gu]
       by_cases h3:e.kind=3
       ·have b3:((e.kind:Int)==3)=true:=by simp[h3]
        rw[ZPp (by simp[fc,gu,h3])]at ji;rw[ZPn (by simp[h3]),List.append_nil]at oZ;clear fc gu h3;have gZ:=Ze wJ.out ((ZW _ _).alloc (ZL _) (C_ #[I_ J_ (e.height:Int),I_ J_ (e.r:Int)] 299));have uv:=Ze wK.out ((ZW _ _).alloc (ZL _) (C_ #[I_ J_ (e.height:Int),I_ J_ (e.r:Int)] 299));have ux:=Ze s6.out ((ZW _ _).alloc (ZL _) (C_ #[I_ J_ (e.height:Int),I_ J_ (e.r:Int)] 299));have dM:=cO.out.alloc (C_ #[I_ J_ (e.height:Int),I_ J_ (e.r:Int)] 299);have pn:=oL.out.alloc (C_ #[I_ J_ (e.height:Int),I_ J_ (e.r:Int)] 299);have fu:Reads ((wr.alloc (C_ (evArr e) 89)).alloc (C_ #[I_ J_ (e.height:Int),I_ J_ (e.r:Int)] 299)) _ 2 (some ⟨wr.heap.size+1,0,none⟩) 1 [I_ J_ (e.height:Int),I_ J_ (e.r:Int)]:=Reads.aA (Zag wr _ _ _) rfl;have eB:=dM.le;obtain⟨dO,tx,wL,dw,wY,iT⟩:=ZH6 gZ uv ux dM pn fu
        have gn:Hid (∀u∈[Value.int .i64 (e.height:Int),I_ J_ (e.r:Int)],u.oneCell'=true):=ZH (λu hu=>by
         simp at hu
         rcases hu with rfl|rfl <;> rfl)
        clear gZ uv ux dM pn fu
        go_wp2_with (first
         |(at_builtin
           refine Zc _ rfl (.tmp 36) (.tmp 42) _ rfl W.heap.size 299 s0 _ 2 16 underlying297 SG SD SE SF rfl ZO (S_ a7 (Zm (ws.take q) key 1).length k7) (Zm (ws.take q) key 1).length (ZbH (Zm (ws.take q) key 1)) rfl dO.out (_) (some ⟨wr.heap.size+1,0,none⟩) 1 1 [I_ J_ (e.height:Int),I_ J_ (e.r:Int)] rfl (iT.out) (gn.out) ZF ZO eB ?_;intro JA wx mN nB BQ;obtain⟨ax,kx,rfl⟩:=Zl mN;have BO:=Za6 tx.out dO.out ZJ;have oO:=Za6 wL.out dO.out ZJ;have FP:=ZaK tx.out nB BO;have FU:=ZaK wL.out nB oO;have qJ:=Zdk wY.out dO.out ZJ nB;have eM:Kept W.heap.size W wx:=⟨dw.out.below.grown nB dw.out.le (λg hg=>(Zb dO.out hg).1),ZT dw.out.le nB.size⟩;have FM:wx.ownsRow W.heap.size 299 2 (S_ ax ((Zm (ws.take q) key 1).length+1) kx) (Zm (ws.take (q+1)) key 1).length (ZbH (Zm (ws.take (q+1)) key 1)):=by
            have e1:ZbH (Zm (ws.take q) key 1++[e])=ZbH (Zm (ws.take q) key 1)++[I_ J_ (e.height:Int),I_ J_ (e.r:Int)]:=by simp[ZbH]
            rw[ji.out,e1,ZI];exact mN
           obtain⟨x0,x1,x2,x3,x4,x5,x6,x7,x8,x9,fh,fi⟩:=qJ.ag;have ko:=qJ.lt;obtain⟨KI,KK,KL,fN⟩:=ZH4 FM FP FU eM;clear BO oO FP FU qJ eM FM mN nB BQ;have mJ:=(fN.out.alloc (C_ #[T_ e.value] 9)).le;have Ht:=Ze KK.out ((ZW _ _).alloc (ZL _) (C_ #[T_ e.value] 9));have nY:=ZH Ht;have qz:Hid (Reads (wx.alloc (C_ #[T_ e.value] 9)) _ 1 (some ⟨wx.heap.size,0,none⟩) 1 [T_ e.value]):=ZH (Reads.aA (ZBn wx 9 #[T_ e.value]) rfl)
           have mg:Hid (∀u∈[Value.string e.value],u.oneCell'=true):=ZH (λu hu=>by
            simp at hu;subst hu
            rfl)
           clear Ht)
         |(at_builtin
           refine Zc _ rfl (.tmp 44) (.tmp 47) _ rfl W.heap.size 9 s1 _ 1 16 underlying63 Ei Ef Eg Eh rfl ZO (S_ a8 (Zm (ws.take q) key 1).length k8) (Zm (ws.take q) key 1).length (Zb0 (Zm (ws.take q) key 1)) rfl nY.out (_) (some ⟨wx.heap.size,0,none⟩) 1 1 [T_ e.value] rfl (qz.out) (mg.out) ZF ZO mJ ?_;intro JA wy gw mH my
           obtain⟨ay,ky,rfl⟩:=Zl gw))
        have it:=Ze KI.out ((ZW wx.heap.size wx).alloc (ZL _) (C_ #[T_ e.value] 9));have BH:=Ze KL.out ((ZW wx.heap.size wx).alloc (ZL _) (C_ #[T_ e.value] 9));have uu:=ZaK it mH (Za6 it nY.out ZJ);have uy:=ZaK BH mH nU.out.symm;have mZ:=Zfd nU.out BH my;have uw:wy.ownsRow W.heap.size 9 1 (S_ ay ((Zm (ws.take q) key 1).length+1) ky) (Zm (ws.take (q+1)) key 1).length (Zb0 (Zm (ws.take (q+1)) key 1)):=by
         have e1:Zb0 (Zm (ws.take q) key 1++[e])=Zb0 (Zm (ws.take q) key 1)++[T_ e.value]:=by simp[Zb0]
         rw[ji.out,e1,ZI];exact gw
        have km:Kept W.heap.size W wy:=⟨(fN.out.alloc (C_ #[T_ e.value] 9)).below.grown mH mJ (λg hg=>(Zb nY.out hg).1),ZT mJ mH.size⟩;obtain⟨Ay,Az,AA,qp,nf⟩:=ZH5 uu uw uy mZ km;clear it BH uu uy mZ uw km gw mH my;go_wp2
        go_roundw
        case rel=>exact⟨q+1,ZO,ZN,Ay,Az,by rw[oZ.out];exact AA,qp,nf⟩
        case measure=>simp[intOf];omega
       ·have b3:((e.kind:Int)==3)=false:=ZP;rw[ZPn (by simp[h3]),List.append_nil]at ji;rw[ZPp (by simp[fc,gu,h3])]at oZ;clear fc gu h3;have eB:=(cO.out.alloc (C_ #[T_ e.value] 9)).le;have dM:=cO.out.alloc (C_ #[T_ e.value] 9);have gZ:=Ze s6.out ((ZW _ _).alloc (ZL _) (C_ #[T_ e.value] 9));have FK:=Ze wJ.out ((ZW _ _).alloc (ZL _) (C_ #[T_ e.value] 9));have uv:=Ze wK.out ((ZW _ _).alloc (ZL _) (C_ #[T_ e.value] 9));obtain⟨dO,Ej,tx,dw⟩:=ZH4 gZ FK uv dM;have qz:Hid (Reads ((wr.alloc (C_ (evArr e) 89)).alloc (C_ #[T_ e.value] 9)) _ 1 (some ⟨wr.heap.size+1,0,none⟩) 1 [T_ e.value]):=ZH (Reads.aA (Zag wr _ _ _) rfl)
        have mg:Hid (∀u∈[Value.string e.value],u.oneCell'=true):=ZH (λu hu=>by
         simp at hu;subst hu
         rfl)
        clear gZ FK uv dM
        go_wp2_with (first
         |(at_builtin
           refine Zc _ rfl (.tmp 49) (.tmp 52) _ rfl W.heap.size 9 s1 _ 1 16 underlying63 Ei Ef Eg Eh rfl ZO (S_ a9 (Z3 (ws.take q) key 1).length k9) (Z3 (ws.take q) key 1).length (Zb0 (Z3 (ws.take q) key 1)) rfl dO.out (_) (some ⟨wr.heap.size+1,0,none⟩) 1 1 [T_ e.value] rfl (qz.out) (mg.out) ZF ZO eB ?_;intro JA wy gw mH my
           obtain⟨ay,ky,rfl⟩:=Zl gw))
        have uu:=ZaK Ej.out mH (Za6 Ej.out dO.out ZJ);have uw:=ZaK tx.out mH nU.out;have mZ:=(Zfd nU.out.symm tx.out my).symm;have uy:wy.ownsRow W.heap.size 9 1 (S_ ay ((Z3 (ws.take q) key 1).length+1) ky) (Z3 (ws.take (q+1)) key 1).length (Zb0 (Z3 (ws.take (q+1)) key 1)):=by
         have e1:Zb0 (Z3 (ws.take q) key 1++[e])=Zb0 (Z3 (ws.take q) key 1)++[T_ e.value]:=by simp[Zb0]
         rw[oZ.out,e1,ZI];exact gw
        have km:Kept W.heap.size W wy:=⟨dw.out.below.grown mH dw.out.le (λg hg=>(Zb dO.out hg).1),ZT dw.out.le mH.size⟩;obtain⟨Ay,Az,AA,qp,nf⟩:=ZH5 uu uw uy mZ km;clear uu uy mZ uw km gw mH my;go_wp2
        go_roundw
        case rel=>exact⟨q+1,ZO,ZN,by rw[ji.out];exact Ay,by rw[ji.out];exact Az,AA,qp,nf⟩
        case measure=>simp[intOf];omega
      ·have Nm:((e.label:Int) != 1)=true:=ZP;rw[ZPn (by simp[gu]),List.append_nil]at ji;rw[ZPn (by simp[gu]),List.append_nil]at oZ;clear fc gu;go_wp2
       go_roundw
       case rel=>exact⟨q+1,ZO,ZN,by rw[ji.out];exact wJ,by rw[ji.out];exact wK,by rw[oZ.out];exact s6,nU,cO⟩
       case measure=>simp[intOf];omega
     ·have Nk:(e.key.toList != key.toList)=true:=by simp[bne,Zcq,fc]
      have Nl:(e.key.toList==key.toList)=false:=by simp[Zcq,fc]
      rw[ZPn (by simp[fc]),List.append_nil]at ji;rw[ZPn (by simp[fc]),List.append_nil]at oZ;clear fc;go_wp2
      go_roundw
      case rel=>exact⟨q+1,ZO,ZN,by rw[ji.out];exact wJ,by rw[ji.out];exact wK,by rw[oZ.out];exact s6,nU,cO⟩
      case measure=>simp[intOf];omega
    ·obtain rfl:q=n:=ZO;have gN:ws.take q=ws:=ZU (by rw[gb.out];exact ZL _);rw[gN]at H7 H8 H9;obtain⟨a7,k7,rfl⟩:=Zl H7.out;obtain⟨a8,k8,rfl⟩:=Zl H8.out;obtain⟨a9,k9,rfl⟩:=Zl H9.out;have Hq:(Zm ws key 1).length<=100:=by
      have h1:=List.length_filter_le (λe:Ev=>decide (e.kind=3)) (Zct ws key 1);have h2:=List.length_filter_le (λe:Ev=>decide (e.key=key)&&decide (e.label=1)) ws;have h3:=gb.out;unfold Zm;unfold Zct at h1 ⊢;omega
     have CD:(Z3 ws key 1).length<=100:=by
      have h1:=List.length_filter_le (λe:Ev => !decide (e.kind=3)) (Zct ws key 1);have h2:=List.length_filter_le (λe:Ev=>decide (e.key=key)&&decide (e.label=1)) ws;have h3:=gb.out;unfold Z3;unfold Zct at h1 ⊢;omega
     have ES:=ZH CD;have F0:Blk wr (w.heap.size+1) 66 #[T_ key,B_ (Zd7 ws key 0),B_ false,T_ (Zco ws key 0),T_ ⟨#[]⟩,v0,v1]:=yQ.out.below HK.out.below yQ.out.lt;have pQ:Past W.heap.size (w.heap.size+1) W wr:=Past.bA HK.out HK.out.le;obtain⟨nV,o7,wM⟩:=ZH3 F0 pQ H9.out;clear F0 pQ CD;have fG:ZeV ws key 1=Za1 (ZaZ ((Z3 ws key 1).map (·.value))):=rfl;have MJ:=ZH fG;clear fG;by_cases h0:Zm ws key 1=[];focus
      have jD:(Zm ws key 1).length=0:=by rw[h0];rfl
      have zJ:decide ((0:Int)<((Zm ws key 1).length:Int))=false:=by simp[jD]
      have Cl:decide (0<(Zm ws key 1).length)=false:=by simp[jD]
      have uW:Zd7 ws key 1=false:=by simp[Zd7,jD]
      have qf:Zco ws key 1=⟨#[]⟩:=ZhP h0;obtain⟨AQ,rp⟩:=ZH2 uW qf;clear h0 jD uW qf
     rotate_left
     focus
      have eN:0<(Zm ws key 1).length:=List.length_pos_iff.2 h0;have zJ:decide ((0:Int)<((Zm ws key 1).length:Int))=true:=ZP;have Cl:decide (0<(Zm ws key 1).length)=true:=by simp[eN]
      have uW:Zd7 ws key 1=true:=by simp[Zd7,eN]
      obtain⟨m0,m1,m2,m3,m4,m5,m6⟩:=nV.out.seven;have DX:=nV.out.frozen 2;have jE:=nV.out.lt;have FI:=ZcO (i:=2) (u := B_ true) H7.out nV.out ZJ;have FN:=ZcO (i:=2) (u := B_ true) H8.out nV.out ZJ;have FQ:=ZcO (i:=2) (u := B_ true) H9.out nV.out ZJ;have cz:=nV.out.aj 2 (B_ true);have kS:=o7.out.set 2 (B_ true);obtain⟨g7,rfl,eP⟩:=Zkh FI eN;obtain⟨g8,rfl,uT,Gw⟩:=Zbm FN eN;have gv:=Zla g7 0 (Zm ws key 1).length k7 _ _ eN Hq eP;obtain⟨tP,dj,lZ,Dn,vV,AQ,AN⟩:=ZH7 gv cz kS FQ Gw uW uT;clear h0 FI FN FQ cz kS eP gv Gw uW uT;go_wp2_with fail;refine tP.out.mono ?_;rintro _ w4 ⟨ki,rfl,oS,cS⟩;have yf:ki<(Zm ws key 1).length:=by have:=oS.1;simpa [Zdu] using this
      obtain⟨x,hx⟩:∃x,(Zm ws key 1)[ki]? = some x:=⟨_,ZX yf⟩;have qf:Zco ws key 1=x.value:=by simp[Zco,oS.eq,hx]
      have RE:w4.cell? ⟨g8,ki,none⟩=some (T_ x.value):=by
       rw[cS.cell (p:=⟨g8,ki,none⟩) AN.out,vV.out ki (by simp[Zb0];exact yf)];simp[Zb0,hx]
      have On:g8<w4.heap.size:=ZR AN.out cS.size;have mz:=dj.out.ob cS;have vr:=lZ.out.below cS (by have:=lZ.out.size;omega);have ux:=Ze Dn.out cS;have tn:=mz.frozen 4;have yh:=mz.lt;have kn:(ki:Int)<((Zm ws key 1).length:Int):=ZO;have VT:(0:Int)<=(ki:Int):=ZO;obtain⟨m0,m1,m2,m3,m4,m5,m6⟩:=Blk.seven mz;obtain⟨rp,gy,tV,wL⟩:=ZH4 qf mz vr ux;clear oS hx qf cS mz vr ux;go_wp2_with fail;obtain⟨nV,o7,wM⟩:=ZH3 (gy.out.aj 4 (T_ x.value)) (tV.out.set 4 (T_ x.value)) (ZcO (i:=4) (u := T_ x.value) wL.out gy.out ZJ);generalize (w4.setCell ⟨w.heap.size+1,4,none⟩ (T_ x.value))=w5 at *
     rotate_left
     all_goals
      have wD:=ZoG (Z3 ws key 1);have eW:(Z3 ws key 1).length=((Z3 ws key 1).map (·.value)).length:=ZM;have BI:=wM.out;rw[wD,eW]at BI;have jf:=Zjr BI (by rw[←eW];have:=ES.out;omega);rw[←eW]at jf;have pd:=ZH jf;clear wD BI jf eW;go_wp2_with fail;refine pd.out.mono ?_;rintro _ w6 ⟨rfl,sQ,nP⟩;have ry:=Zgd sQ (by rw[ZcC];simp;have:=ES.out;omega);have tD:=ZH ry;have eK:=Zdk nV.out wM.out ZJ nP;have oX:=o7.out.grown nP (by have:=o7.out.size;omega) (λg hg=>(Zb wM.out hg).1);obtain⟨jT,tg,nL⟩:=ZH3 eK oX sQ;clear ry eK oX sQ nP;go_wp2_with fail;refine tD.out.mono ?_;rintro _ w8 ⟨yN,rfl,lx,wt,_⟩;have ga:=Zdk jT.out nL.out ZJ wt;have Hw:=tg.out.grown wt (by have:=tg.out.size;omega) (λg hg=>(Zb nL.out hg).1);obtain⟨m0,m1,m2,m3,m4,m5,m6⟩:=ga.seven;have Cg:=ga.frozen 6;have R5:=ga.lt;obtain⟨o6,A6,ni⟩:=ZH3 ga Hw lx;clear ga Hw lx wt;obtain⟨sj,yL,rfl⟩:=Zl ni.out;go_wp2_with fail;have Gn:=o6.out.aj 6 (S_ sj (Za1 (ZaZ ((Z3 ws key 1).map (·.value)))).length yL);have Hx:=A6.out.set 6 (S_ sj (Za1 (ZaZ ((Z3 ws key 1).map (·.value)))).length yL);have Ip:=ZcO (i:=6) (u := S_ sj (Za1 (ZaZ ((Z3 ws key 1).map (·.value)))).length yL) ni.out o6.out ZJ;obtain⟨wQ,A7,jU⟩:=ZH3 Gn Hx Ip;clear Gn Hx Ip;generalize (w8.setCell ⟨w.heap.size+1,6,none⟩ (S_ sj (Za1 (ZaZ ((Z3 ws key 1).map (·.value)))).length yL))=wE at *;go_wp2
      go_roundw
      case rel =>
       refine⟨2,_,_,.inr (.inr ⟨rfl,ZN⟩),ZH (by have:=wQ.out;simp only[Zbs,Za2,AQ.out,rp.out];exact this),ZH (A7.out.blk zb.out (ZL _) ZO),ZH (A7.out.row zh.out (ZL _) yQ.out ZJ),ZH (Zj jU.out yW.out.le),ZH (A7.out.kept yW.out yW.out.le ZO)⟩
      case measure=>simp[intOf]
  ·obtain⟨a0,k0,rfl⟩:=Zl zh.out;obtain⟨a1,k1,rfl⟩:=Zl zi.out;obtain⟨m0,m1,m2,m3,m4,m5,m6⟩:=(show Blk W (w.heap.size+1) 66 (Zbi (Za2 key ws) _ _) from yQ.out).seven;have OF:=yQ.out.lt;have hlp:=zb.out.lt;have fo:=zb.out.frozen;have f0:=fo 0;have f1:=fo 1;have f2:=fo 2;have f3:=fo 3;have f4:=fo 4;have f5:=fo 5;have f6:=fo 6;obtain⟨p0,p1,p2,p3,p4,p5,p6⟩:=zb.out.seven;clear fo;go_wp2_with fail;have dz:=Zal (vs:=Zbi (Za2 key ws) (S_ a0 (Zbs key ws 2).s0.length k0) (S_ a1 (Zbs key ws 2).s1.length k1)) zb.out rfl;have m8:=Zaf yW.out (g:=w.heap.size) (ZL _) 0 (Zbi (Za2 key ws) (S_ a0 (Zbs key ws 2).s0.length k0) (S_ a1 (Zbs key ws 2).s1.length k1)).toList;have nb:=ZiY zh.out (g:=w.heap.size) (λh=>Zr zh.out zb.out ZJ h) 0 (Zbi (Za2 key ws) (S_ a0 (Zbs key ws 2).s0.length k0) (S_ a1 (Zbs key ws 2).s1.length k1)).toList;have eG:=ZiY zi.out (g:=w.heap.size) (λh=>Zr zi.out zb.out ZJ h) 0 (Zbi (Za2 key ws) (S_ a0 (Zbs key ws 2).s0.length k0) (S_ a1 (Zbs key ws 2).s1.length k1)).toList;refine bodyPost_end (w:=setAll W w.heap.size 0 (Zbi (Za2 key ws) (S_ a0 (Zbs key ws 2).s0.length k0) (S_ a1 (Zbs key ws 2).s1.length k1)).toList) (Z6 rfl rfl (run_loadVar_row _ _ _ _ _ _ _ dz underlying66 rfl ZK)) rfl ?_;exact⟨_,_,rfl,nb,eG,m8.below⟩
theorem ZqL:(prog.info? 66).map (λi=>(i.zero,i.size,i.bytes))=some (some (.agg (Zbi ⟨⟨#[]⟩,false,false,⟨#[]⟩,⟨#[]⟩,[],[]⟩ (S_ none 0 0) (S_ none 0 0))),7,104):=ZK
def conCells(ps:List (Con×Value×Value)):List Value:=ps.flatMap λp=>(Zbi p.1 p.2.1 p.2.2).toList
structure ConRows(B:Nat)(w:World)(v:Value)(ps:List (Con×Value×Value)):Prop where
 row:w.ownsRow B 66 7 v ps.length (conCells ps)
 s0:∀p∈ps,w.ownsRow B 9 1 p.2.1 p.1.s0.length (p.1.s0.map Value.string)
 s1:∀p∈ps,w.ownsRow B 9 1 p.2.2 p.1.s1.length (p.1.s1.map Value.string)
section
variable {B:Nat}{w w':World}{v v7:Value}{ps qs:List (Con×Value×Value)}
theorem ConRows.nil(B:Nat)(w:World):ConRows B w (S_ none 0 0) []:=⟨⟨rfl,.inl ⟨rfl,rfl⟩⟩,λp h=>by simp at h,λp h=>by simp at h⟩
theorem ConRows.below(h:ConRows B w v ps)(hb:L_ w w'):ConRows B w' v ps:=⟨Ze h.row hb,λp hp=>Ze (h.s0 p hp) hb,λp hp=>Ze (h.s1 p hp) hb⟩
theorem ConRows.mono{B':Nat}(h:ConRows B w v ps)(hB:B'<=B):ConRows B' w v ps:=⟨Zj h.row hB,λp hp=>Zj (h.s0 p hp) hB,λp hp=>Zj (h.s1 p hp) hB⟩
theorem ZjE(a b:List (Con×Value×Value)):conCells (a++b)=conCells a++conCells b:=by simp[conCells]
theorem ConRows.push(h:ConRows B w v ps)(hg:w.grownBy w' v.ownBlock)(hr:w'.ownsRow B 66 7 v7 (ps.length+qs.length) (conCells ps++conCells qs))(h0:∀p∈qs,w.ownsRow B 9 1 p.2.1 p.1.s0.length (p.1.s0.map Value.string))(h1:∀p∈qs,w.ownsRow B 9 1 p.2.2 p.1.s1.length (p.1.s1.map Value.string)):ConRows B w' v7 (ps++qs):=by
 refine⟨by rw[ZjE,ZI];exact hr,λp hp=>?_,λp hp=>?_⟩
 ·rcases List.mem_append.1 hp with hp|hp
  ·exact ZaK (h.s0 p hp) hg (Za6 (h.s0 p hp) h.row ZJ)
  ·exact ZaK (h0 p hp) hg (Za6 (h0 p hp) h.row ZJ)
 ·rcases List.mem_append.1 hp with hp|hp
  ·exact ZaK (h.s1 p hp) hg (Za6 (h.s1 p hp) h.row ZJ)
  ·exact ZaK (h1 p hp) hg (Za6 (h1 p hp) h.row ZJ)
theorem ZjD{B':Nat}{c:Con}{v0 v1:Value}(h0:w.ownsRow B' 9 1 v0 c.s0.length (c.s0.map Value.string))(h1:w.ownsRow B' 9 1 v1 c.s1.length (c.s1.map Value.string)):∀u∈(Zbi c v0 v1).toList,u.oneCell'=true:=by
 obtain⟨_,_,rfl⟩:=Zl h0;obtain⟨_,_,rfl⟩:=Zl h1;intro u hu;simp at hu;rcases hu with rfl|rfl|rfl|rfl|rfl|rfl|rfl <;> rfl
end
def ZmK(l:List Ev):List ByteArray:=Za1 (ZaZ ((ZaU l).map (·.key)))
def ZcQ(l:List Ev):List Con:=(ZmK l).map λk=>Za2 k (ZaY l (ZaU l))
def ZgH(cs:List Con)(w:World)(r:Ending)(w':World):Prop:=∃v ps,r=R_ v/\ps.map (·.1)=cs/\ConRows w.heap.size w' v ps/\L_ w w'
theorem Zpe(l:List Ev):(ZmK l).length<=l.length:=by
 have h1:=ZfK (ZaZ ((ZaU l).map (·.key)));rw[ZcC,List.length_map]at h1;exact ZT h1 (List.length_filter_le _ _)
theorem Ztu{l:List Ev}(h:EvSl w a n cap l)(hn:n<=100)(hr:∀x∈l,x.r<5):
  Calls prog 113 #[S_ a n cap] w (ZgH (ZcQ l) w):=by
 have HL:=ZH (h.2.2.1);obtain⟨s1,Ei,Ef,Eg,Eh⟩:=info_parts Zto;obtain⟨s2,PJ,PF,PG,PI⟩:=info_parts ZqL;obtain⟨LP,HS,HR⟩:=ZH3 (Zpk h ZO hr) h hr;clear h hr;go_enter func113,ntmps113;go_wp2_with fail;refine LP.out.mono ?_;rintro _ w1 ⟨vc,rfl,Iq,cz⟩;obtain⟨ac,cc,rfl,sU⟩:=EvSl.ae Iq;have OF:(ZaU l).length<=100:=by
  have:=List.length_filter_le (Zck l) l;have:=HL.out;unfold ZaU;omega
 obtain⟨K2,dj,Bc⟩:=ZH3 (Zmq (HS.out.below cz) ZO HR.out sU ZO (λx hx=>HR.out x (List.mem_filter.1 hx).1)) cz sU;clear cz Iq sU;go_wp2_with fail;refine K2.out.mono ?_;rintro _ w2 ⟨vw,rfl,pS,cD⟩;obtain⟨aw,cw,rfl,Sr⟩:=EvSl.ae pS;obtain⟨Fc,df,Qy⟩:=ZH3 (Bc.out.below cD) (dj.out.trans (cD.mono dj.out.size)) Sr;clear pS Sr cD;go_wp2_with fail;obtain⟨cs,gC⟩:∃cs,cs=ZaU l:=⟨_,rfl⟩;obtain⟨ws,Pw⟩:∃ws,ws=ZaY l (ZaU l):=⟨_,rfl⟩;obtain⟨yO,QC⟩:=ZH2 gC Pw;rw[←Pw]at Qy ⊢;rw[←gC]at Fc OF ⊢;clear gC Pw;go_loopw [5,18] (λv i wr=>∃q:Nat,q<=cs.length/\i=I_ J_ q/\Hid (wr.ownsRow w2.heap.size 9 1 v q ((cs.take q).map λe=>Value.string e.key))/\Hid (K_ w2 wr)) (λ_ i _=>cs.length-(intOf i).toNat)
 case atStart=>exact⟨0,Nat.zero_le _,rfl,ZH ⟨rfl,.inl ⟨rfl,rfl⟩⟩,ZH (ZKr w2)⟩
 case round =>
  obtain⟨q,hq,rfl,HO,HK⟩:=hrel;obtain⟨a5,c5,rfl⟩:=Zl HO.out;by_cases du:q<cs.length
  ·obtain⟨e,he⟩:∃e,cs[q]? = some e:=⟨_,ZX du⟩;have hs:=Fc.out.of_same (w':=wr) (λad _ hl=>HK.out.below.block _ hl) HK.out.le;obtain⟨bk,off,rfl,cW,c0,c1,c2,c3,c4,UZ,c6,c7,c8,c9,dg,dh⟩:=hs.at_ he;have iC:(cs.take (q+1)).map (λe=>Value.string e.key)=(cs.take q).map (λe=>Value.string e.key)++[T_ e.key]:=by rw[Zan he];simp
   have hx:=ZBn wr 89 (evArr e);obtain⟨x0,x1,x2,x3,x4,x5,x6,x7,x8,x9,fh,fi⟩:=hx.ag;have iX:=ZH ((HO.out.alloc (C_ (evArr e) 89)).alloc (C_ #[T_ e.key] 9));have cX:=(HK.out.alloc (C_ (evArr e) 89)).alloc (C_ #[T_ e.key] 9);have iT:Hid (Reads ((wr.alloc (C_ (evArr e) 89)).alloc (C_ #[T_ e.key] 9)) _ 1 (some ⟨wr.heap.size+1,0,none⟩) 1 [T_ e.key]):=ZH (Reads.aA (Zag wr _ _ _) rfl);have eE:=cX.le;obtain⟨fy,cO⟩:=ZH2 iC cX
   have gn:Hid (∀u∈[Value.string e.key],u.oneCell'=true):=ZH (λu hu=>by
    simp at hu;subst hu
    rfl)
   clear hs he iC hx cX
   go_wp2_with (first
    |(at_builtin
      refine Zc _ rfl (.tmp 22) (.tmp 25) _ rfl w2.heap.size 9 s1 _ 1 16 underlying63 Ei Ef Eg Eh rfl ZO (S_ a5 q c5) q ((cs.take q).map λe=>Value.string e.key) rfl iX.out _ (some ⟨wr.heap.size+1,0,none⟩) 1 1 [T_ e.key] rfl iT.out gn.out ZF ZO eE ?_;intro v7 w7 cF db _;rw[←fy.out]at cF;have iV:K_ w2 w7:=⟨cO.out.below.grown db cO.out.le (λg hg=>(Zb iX.out hg).1),ZT cO.out.le db.size⟩;obtain⟨iG,fx⟩:=ZH2 cF iV
      clear cF db iV))
   go_roundw
   case rel=>exact⟨q+1,ZO,ZN,iG,fx⟩
   case measure=>simp[intOf];omega
  ·obtain rfl:q=cs.length:=ZO;rw[List.take_length]at HO;have oT:cs.map (λe=>Value.string e.key)=(cs.map (·.key)).map Value.string:=ZM;have lu:cs.length=(cs.map (·.key)).length:=ZM;have ho:=HO.out;rw[oT,lu]at ho;have jf:=Zjr ho (by rw[←lu];omega);rw[←lu]at jf;obtain⟨pd,iR,AS⟩:=ZH3 jf ho lu;clear ho jf oT lu;go_wp2_with fail;refine pd.out.mono ?_;rintro _ w4 ⟨rfl,iO,dL⟩;have ry:=Zgd iO (by rw[ZcC,←AS.out];omega);have dw:Hid (K_ w2 w4):=ZH (⟨HK.out.below.grown dL HK.out.le (λg hg=>(Zb HO.out hg).1),ZT HK.out.le dL.size⟩);obtain⟨tD,gS⟩:=ZH2 ry iO;clear ry iO dL;go_wp2_with fail;refine tD.out.mono ?_;rintro _ w5 ⟨v5,rfl,eO,lq,_⟩;obtain⟨a9,c9,rfl⟩:=Zl eO;have eM:K_ w2 w5:=⟨dw.out.below.grown lq dw.out.le (λg hg=>(Zb gS.out hg).1),ZT dw.out.le lq.size⟩;obtain⟨ks,rI⟩:∃ks,ks=Za1 (ZaZ (cs.map (·.key))):=⟨_,rfl⟩;have D0:ks.length<=100:=by
    have h1:=ZfK (ZaZ (cs.map (·.key)));rw[ZcC,←AS.out]at h1;rw[rI];omega
   have jC:ZcQ l=ks.map λk=>Za2 k ws:=by
    rw[rI,yO.out,QC.out];rfl
   rw[←rI]at eO ⊢;obtain⟨fN,io,rU⟩:=ZH3 eM eO jC;clear eM eO lq rI jC;go_wp2_with fail;generalize w5=W at *;go_loopw [8,33] (λv i wr=>∃(q:Nat) (ps:List (Con×Value×Value)),q<=ks.length/\i=I_ J_ q/\Hid (ps.map (·.1)=(ks.take q).map λk=>Za2 k ws)/\Hid (ConRows W.heap.size wr v ps)/\Hid (K_ W wr)) (λ_ i _=>ks.length-(intOf i).toNat)
   case atStart=>exact⟨0,[],Nat.zero_le _,rfl,ZH rfl,ZH (ConRows.nil _ _),ZH (ZKr W)⟩
   case round =>
    obtain⟨q,ps,hq,rfl,iS,HC,r9⟩:=hrel;obtain⟨a8,c8,rfl⟩:=Zl HC.out.row;by_cases du:q<ks.length
    ·obtain⟨k,hk⟩:∃k,ks[q]? = some k:=⟨_,ZX du⟩;obtain⟨g,hg,ez,cB⟩:=Zbm io.out ZO;have eD:=cB q (by simp;exact du);rw[List.getElem?_map,hk,Option.map_some,←r9.out.cells g q ez]at eD;subst hg;have Oo:g<wr.heap.size:=ZR ez r9.out.le;have Sk:(0:Int)<=(q:Int):=ZO;have gx:ps.length=q:=by
      have:=congrArg List.length iS.out;rw[List.length_map,List.length_map,ZV]at this;omega
     have tm:=Znv ((Qy.out.below fN.out.below).below r9.out.below) (by
      have h1:=List.length_filter_le (ZdO l cs) l;have h2:=QC.out;have h3:=HL.out;rw[h2,ZaY,←yO.out]
      omega) k
     have fM:(ks.take (q+1)).map (λk=>Za2 k ws)=(ks.take q).map (λk=>Za2 k ws)++[Za2 k ws]:=by
      rw[List.take_add_one,hk];simp
     obtain⟨yP,mX,nK⟩:=ZH3 tm gx fM;clear hk cB tm gx fM;go_wp2_with fail;refine yP.out.mono ?_;rintro _ w6 ⟨v0,v1,rfl,nb,eG,eK⟩;have dP:=ZjD nb eG;obtain⟨Fx,Ja,rfl⟩:=Zl nb;obtain⟨Fy,Jb,rfl⟩:=Zl eG;obtain⟨C,hC⟩:∃C,C=Za2 k ws:=⟨_,rfl⟩;rw[←hC]at nb eG dP ⊢;obtain⟨n0,gi⟩:∃n0,n0=C.s0.length:=⟨_,rfl⟩;obtain⟨n1,qi⟩:∃n1,n1=C.s1.length:=⟨_,rfl⟩;rw[←gi]at nb dP ⊢;rw[←qi]at eG dP ⊢;have BY:=HC.out.below eK;have tp:=r9.out.step eK;have fW:=(ZW w6.heap.size w6).alloc (ZL _) (C_ (Zbi C (S_ Fx n0 Ja) (S_ Fy n1 Jb)) 66);obtain⟨s7,fx,H0,H1,gn,Dw,L3,K0,iT⟩:=ZH9 (BY.below fW) (tp.alloc (C_ (Zbi C (S_ Fx n0 Ja) (S_ Fy n1 Jb)) 66)) (Zj (Ze nb fW) r9.out.le) (Zj (Ze eG fW) r9.out.le) dP gi qi hC (Reads.aA (sz:=7) (n:=1) (ZBn w6 66 (Zbi C (S_ Fx n0 Ja) (S_ Fy n1 Jb))) rfl);have eE:=fx.out.le;clear nb eG dP hC gi qi BY tp fW eK;have jH:=ZH (s7.out.row)
     go_wp2_with (first
      |(at_builtin
        refine Zc _ rfl (.tmp 37) (.tmp 41) _ rfl W.heap.size 66 s2 _ 7 104 underlying38 PJ PF PG PI rfl ZO (S_ a8 ps.length c8) ps.length (conCells ps) rfl jH.out _ (some ⟨w6.heap.size,0,none⟩) 1 1 (Zbi C (S_ Fx n0 Ja) (S_ Fy n1 Jb)).toList rfl iT.out gn.out (by simp only[maxLen];have:=mX.out;omega) (by have:=mX.out;omega) eE ?_;intro v7 w7 cF db _
        have jn:=s7.out.push (qs:=[(C,S_ Fx n0 Ja,S_ Fy n1 Jb)]) db cF (λp hp=>by
         simp at hp;subst hp;have:=H0.out;rw[Dw.out]at this ⊢;exact this) (λp hp=>by
         simp at hp;subst hp;have:=H1.out;rw[L3.out]at this ⊢
         exact this)
        have iV:K_ W w7:=⟨fx.out.below.grown db fx.out.le (λg hg=>(Zb jH.out hg).1),ZT fx.out.le db.size⟩;obtain⟨vV,nf⟩:=ZH2 jn iV
        clear cF db iV jn))
     go_roundw
     case rel=>exact⟨q+1,_,ZO,ZN,ZH (by rw[nK.out,←iS.out,List.map_append,←K0.out];rfl),vV,nf⟩
     case measure=>simp[intOf];omega
    ·obtain rfl:q=ks.length:=ZO;rw[List.take_length]at iS;go_wp2
     go_ret;have iU:=df.out.trans (fN.out.below.mono df.out.size);exact⟨_,ps,rfl,by rw[iS.out,rU.out],HC.out.mono iU.size,iU.trans (r9.out.below.mono iU.size)⟩
def Zbo(k:Nat):Value := .agg #[B_ (decide (k=1∨k=4)),B_ (decide (k=2)),B_ (decide (k=3∨k=5))]
theorem ZfA:Enc (.int .i64) (λk:Int=>Value.int .i64 k):=⟨λ_=>rfl,λa b h=>by injection h⟩
theorem ZpN:(prog.info? 225).map (·.zero)=some (some (.agg #[B_ false,B_ false,B_ false])):=ZK
theorem ZoH{P:Program}{t:TypeId}{z:Value}(h:(P.info? t).map (·.zero)=some (some z))(w:World):(zeroValue t).run P w=.ok z w:=by
 cases hq:P.info? t with
 |none=>rw[hq]at h;simp at h
 |some i =>
  rw[hq]at h;have hz:i.zero=some z:=by simpa using h
  simp[zeroValue,typeInfo,hq,hz]
theorem ZcL(k:Nat)(h1:1<=k)(h5:k<=5)(w:World):Calls prog 120 #[I_ J_ k] w (Zx (.tuple #[Zbo k,B_ true]) w):=by
 have yj:=MapKV.new (λk:Int=>Value.int .i64 k) (w.alloc (C_ #[B_ false,B_ false,B_ false] 225));have e1:(w.alloc (C_ #[B_ false,B_ false,B_ false] 225)).heap.size=w.heap.size+1:=ZM;rw[e1]at yj;have cR:=((ZKr w).alloc (C_ #[B_ false,B_ false,B_ false] 225)).alloc (.map #[] 0);have nb:=(ZBn w 225 #[B_ false,B_ false,B_ false]).alloc (.map #[] 0);obtain⟨W1,cN,kR,lm⟩:=ZcP (P:=prog) ZfA underlying272 underlying3 yj 1 (.agg #[B_ true,B_ false,B_ false]);have dI:Kept w.heap.size w W1:=⟨cR.below.grown lm cR.le (λg hg=>by injection hg with hg;omega),ZT cR.le lm.size⟩;have eG:=nb.grown lm (λe=>by injection e with e;omega);clear yj cR nb lm;obtain⟨W2,cM,jP,eQ⟩:=ZcP (P:=prog) ZfA underlying272 underlying3 kR 2 (.agg #[B_ false,B_ true,B_ false]);have cX:Kept w.heap.size w W2:=⟨dI.below.grown eQ dI.le (λg hg=>by injection hg with hg;omega),ZT dI.le eQ.size⟩;have dV:=eG.grown eQ (λe=>by injection e with e;omega);clear kR dI eG eQ;obtain⟨W3,de,He,i5⟩:=ZcP (P:=prog) ZfA underlying272 underlying3 jP 3 (.agg #[B_ false,B_ false,B_ true]);have dr:Kept w.heap.size w W3:=⟨cX.below.grown i5 cX.le (λg hg=>by injection hg with hg;omega),ZT cX.le i5.size⟩;have fd:=dV.grown i5 (λe=>by injection e with e;omega);clear jP cX dV i5;obtain⟨W4,ei,D2,dL⟩:=ZcP (P:=prog) ZfA underlying272 underlying3 He 4 (.agg #[B_ true,B_ false,B_ false]);have dM:Kept w.heap.size w W4:=⟨dr.below.grown dL dr.le (λg hg=>by injection hg with hg;omega),ZT dr.le dL.size⟩;have iO:=fd.grown dL (λe=>by injection e with e;omega);clear He dr fd dL;obtain⟨W5,iD,OO,lq⟩:=ZcP (P:=prog) ZfA underlying272 underlying3 D2 5 (.agg #[B_ false,B_ false,B_ true]);have eM:Kept w.heap.size w W5:=⟨dM.below.grown lq dM.le (λg hg=>by injection hg with hg;omega),ZT dM.le lq.size⟩;have eO:=iO.grown lq (λe=>by injection e with e;omega);clear D2 dM iO lq;obtain⟨hl,_⟩:=Zhx (P:=prog) ZfA underlying272 underlying3 (.agg #[B_ false,B_ false,B_ false]) (ZoH ZpN) OO k;have hv:Zfi (Zfp (Zfp (Zfp (Zfp (Zfp ([]:List (Int×Value)) 1 (.agg #[B_ true,B_ false,B_ false])) 2 (.agg #[B_ false,B_ true,B_ false])) 3 (.agg #[B_ false,B_ false,B_ true])) 4 (.agg #[B_ true,B_ false,B_ false])) 5 (.agg #[B_ false,B_ false,B_ true])) (k:Int)=some (Zbo k):=by
  rcases(by omega:k=1∨k=2∨k=3∨k=4∨k=5) with rfl|rfl|rfl|rfl|rfl <;> rfl
 rw[hv]at hl;obtain⟨s0,s1,s2,hs⟩:∃s0 s1 s2,Zbo k=.agg #[B_ s0,B_ s1,B_ s2]:=⟨_,_,_,rfl⟩;rw[hs]at hl ⊢;have jp:=@run_makeMap prog;have cI:=eO.lt;obtain⟨c0,c1,c2⟩:=eO.three;have f0:=eO.frozen 0;have f1:=eO.frozen 1;have f2:=eO.frozen 2;obtain⟨HR,HK⟩:=ZH2 eO eM;clear eO eM OO hs hv e1;go_enter func120,ntmps120;go_wp2_with fail;have dz:=((((HR.out.aj 0 (B_ s0)).aj 1 (B_ s1)).aj 2 (B_ s2)).alloc (C_ #[B_ s0,B_ s1,B_ s2] 225));have m8:=(((HK.out.setCell (p:=⟨w.heap.size,0,none⟩) (ZL _) (B_ s0)).setCell (p:=⟨w.heap.size,1,none⟩) (ZL _) (B_ s1)).setCell (p:=⟨w.heap.size,2,none⟩) (ZL _) (B_ s2)).alloc (C_ #[B_ s0,B_ s1,B_ s2] 225);refine bodyPost_ret (Zq rfl rfl rfl (run_loadVar_row _ _ _ _ _ _ _ dz underlying225 rfl ZK)) rfl ?_;exact⟨rfl,m8.below⟩
theorem Zb1(k:Nat)(h:k<=1048576)(w:World):Calls prog 166 #[I_ J_ k] w (Zx (B_ true) w):=by
 have h0:(0:Int)<=(k:Int):=ZO;have h1:(k:Int)<=1048576:=ZO;go_enter func166,ntmps166;go_wp2
 go_ret;exact⟨ZM,ZW _ _⟩
theorem Zhu(d:Nat)(xs ys:List Int)(w:World):∀(is:List Nat),(∀i∈is,i<xs.length/\i<ys.length) ->
  (Op.eqItems (d+1) 3 1 (xs.map λn=>Value.int .i64 n).toArray (ys.map λn=>Value.int .i64 n).toArray is).run prog w=.ok (decide (∀i∈is,xs[i]? = ys[i]?)) w
 | [],_=>by simp[Op.eqItems]
 |i::is,h=>by
  obtain⟨h1,h2⟩:=h i ZM;have ih:=Zhu d xs ys w is (λj hj=>h j (by simp[hj]));obtain⟨x,hx⟩:∃x,xs[i]? = some x:=⟨_,ZX h1⟩;obtain⟨y,hy⟩:∃y,ys[i]? = some y:=⟨_,ZX h2⟩;have p1:=run_part_plain (P:=prog) (w:=w) Zh4 (xs:=(xs.map λn=>Value.int .i64 n).toArray) (off:=i*1) (v := I_ J_ x) (by simp[hx]);have p2:=run_part_plain (P:=prog) (w:=w) Zh4 (xs:=(ys.map λn=>Value.int .i64 n).toArray) (off:=i*1) (v := I_ J_ y) (by simp[hy]);have hq:=run_equalIn_int (P:=prog) w d 3 .i64 .i64 x y underlying3;simp only[Op.eqItems,Sem.run_bind,p1,p2,hq,Result.andThen_ok];by_cases Sy:x=y
  ·subst Sy;simp[ih,hx,hy]
  ·simp[hx,hy,Sy]
theorem ZaN(a b:Clk)(d:Nat)(w:World):(Op.equalIn (d+1+1) 44 (Zbh a) (Zbh b)).run prog w=.ok (decide (a=b)) w:=by
 obtain⟨i0,hi,dd,cV,dc⟩:=info_parts Ztn;have hc:prog.cellsOf 3=1:=ZK;have h:=run_equalIn_array (P:=prog) w (d+1) (clkArr a) (clkArr b) underlying44 hi;have e:=Zhu d [a.c0,a.c1,a.c2,a.c3,a.c4] [b.c0,b.c1,b.c2,b.c3,b.c4] w (List.range 5) (by intro i hi;simp at hi ⊢;omega);have ea:∀a:Clk,(([(a.c0:Int),a.c1,a.c2,a.c3,a.c4]:List Int).map λn=>Value.int .i64 n).toArray=clkArr a:=λa=>rfl
 rw[ea,ea]at e;rw[hc]at h;rw[h,e];congr 1;obtain⟨a0,a1,a2,a3,a4⟩:=a;obtain⟨b0,b1,b2,b3,b4⟩:=b;simp only[List.range,List.range.loop];rw[Bool.eq_iff_iff];simp;omega
structure Frm where
 kind:Nat
 r:Nat
 upto:Nat
 clock:Clk
 events:List Ev
structure Frm.Ok(f:Frm):Prop where
 kind1:1<=f.kind
 kind5:f.kind<=5
 r:f.r<5
 upto:f.upto<=1048576
 upto0:f.kind≠2->f.upto=0
 clock:∀i,f.clock.get i<=1048576
 clock0:f.kind≠3->f.kind≠5->f.clock=ZCz
 events:∀e∈f.events,e.Ok
 len:f.events.length<=20
 push:f.kind=1->1<=f.events.length/\∀e∈f.events,e.r=f.r
 events0:f.kind≠1->f.kind≠4->f.events=[]
abbrev Za(f:Frm)(v:Value):Array Value:=#[I_ J_ f.kind,I_ J_ f.r,I_ J_ f.upto,I_ J_ f.clock.c0,I_ J_ f.clock.c1,I_ J_ f.clock.c2,I_ J_ f.clock.c3,I_ J_ f.clock.c4,v]
abbrev Zah(f:Frm)(v:Value):Value := .agg (Za f v)
theorem Blk.nine{g:Nat}{t:TypeId}{v0 v1 v2 v3 v4 v5 v6 v7 v8:Value}(h:Blk w g t #[v0,v1,v2,v3,v4,v5,v6,v7,v8]):w.cell? ⟨g,0,none⟩=some v0/\w.cell? ⟨g,1,none⟩=some v1/\w.cell? ⟨g,2,none⟩=some v2/\w.cell? ⟨g,3,none⟩=some v3/\w.cell? ⟨g,4,none⟩=some v4/\w.cell? ⟨g,5,none⟩=some v5/\w.cell? ⟨g,6,none⟩=some v6/\w.cell? ⟨g,7,none⟩=some v7/\w.cell? ⟨g,8,none⟩=some v8 :=
 ⟨h.cell 0,h.cell 1,h.cell 2,h.cell 3,h.cell 4,h.cell 5,h.cell 6,h.cell 7,h.cell 8⟩
theorem Zc1(w:World):(Op.equalIn 10000 44 (.agg #[I_ J_ (ZCz.c0:Int),I_ J_ (ZCz.c1:Int),I_ J_ (ZCz.c2:Int),I_ J_ (ZCz.c3:Int),I_ J_ (ZCz.c4:Int)]) (.agg #[I_ J_ 0,I_ J_ 0,I_ J_ 0,I_ J_ 0,I_ J_ 0])).run prog w=.ok true w :=
 ZaN ZCz ZCz 9998 w
theorem Ze1{f:Frm}(h:f.Ok)(hs:EvSl w a n cap f.events):Calls prog 119 #[Zah f (S_ a n cap)] w (Zx (B_ true) w):=by
 have cR:=(ZKr w).alloc (C_ (Za f (S_ a n cap)) 158);obtain⟨eh,fZ⟩:=ZH2 (ZBn w 158 (Za f (S_ a n cap))) (hs.below cR.below);have k1:=h.kind1;have k5:=h.kind5;have hr:=h.r;have dJ:=h.upto;have hlen:=h.len;have fS:=hs.2.2.1;have r0:(0:Int)<=(f.r:Int):=ZO;have r5:(f.r:Int)<5:=ZO;have Ed:¬((f.r:Int)<0):=ZO;have Ee:¬((5:Int)<=(f.r:Int)):=ZO;obtain⟨H,ed⟩:=ZH2 h cR;clear h cR hs;have lD:=ZcL f.kind k1 k5;have sy:=Zc1;go_enter func119,ntmps119;go_wp2_with fail;refine(lD _).mono ?_;rintro _ w1 ⟨rfl,cz⟩;obtain⟨da,dj,fl⟩:=ZH3 (ed.out.step cz) (eh.out.ob cz) (fZ.out.below cz);clear cz lD;obtain⟨kind,r,upto,clock,events⟩:=f;simp only[]at *;rcases(by omega:kind=1∨kind=2∨kind=3∨kind=4∨kind=5) with rfl|rfl|rfl|rfl|rfl
 ·have eo:clock=ZCz:=H.out.clock0 ZM ZM;have dt:upto=0:=H.out.upto0 ZM;subst eo dt;rw[show Zbo 1=.agg #[B_ true,B_ false,B_ false] from rfl];have qi:(1:Int)<=(n:Int):=by have:=(H.out.push rfl).1;simp only[]at this;omega
  have nR:=(H.out.push rfl).2;simp only[]at nR;obtain⟨c0,c1,c2,c3,c4,c5,c6,c7,c8⟩:=dj.out.nine;have cI:=dj.out.lt;go_wp2_with fail;refine(Zb1 0 ZO _).mono ?_;rintro _ w2 ⟨rfl,cD⟩;have cX:=(da.out.alloc (C_ #[B_ true,B_ false,B_ false] 225)).step cD;have dx:=(dj.out.alloc (C_ #[B_ true,B_ false,B_ false] 225)).ob cD;have lN:=(fl.out.below ((ZW w1.heap.size w1).alloc (ZL _) (C_ #[B_ true,B_ false,B_ false] 225))).below cD;have kJ:=(ZBn w1 225 #[B_ true,B_ false,B_ false]).ob cD;obtain⟨d0,d1,d2⟩:=kJ.three;have gX:=kJ.lt;obtain⟨cO,df,fB⟩:=ZH3 cX dx lN;clear cX dx lN kJ cD c0 c1 c2 c3 c4 c5 c6 c7 c8 cI;obtain⟨c0,c1,c2,c3,c4,c5,c6,c7,c8⟩:=df.out.nine;have cI:=df.out.lt;go_wp2_with fail;clear d0 d1 d2 gX;go_loopw [6,65] (λ_ i wr=>∃k:Nat,k<=5/\i=I_ J_ k/\Hid (K_ w2 wr)) (λ_ i _=>5-(intOf i).toNat)
  case atStart=>exact⟨0,ZO,rfl,ZH (ZKr _)⟩
  case round =>
   obtain⟨k,hk,rfl,dG⟩:=hrel;by_cases eM:k<5
   ·have kn:(k:Int)<5:=ZO;have kO:=λw=>Zao ZCz k eM w
    go_wp2_with fail;refine(Zb1 (ZCz.get k) (H.out.clock k) _).mono ?_;rintro _ w3 ⟨rfl,cG⟩;have cU:=ZH (dG.out.step cG);clear cG;go_wp2
    go_roundw
    case rel=>exact⟨k+1,ZO,ZN,cU⟩
    case measure=>simp[intOf];omega
   ·obtain rfl:k=5:=ZO;have fK:=df.out.ob dG.out.below;have oN:=fB.out.below dG.out.below;have dr:=cO.out.trans dG.out cO.out.le;obtain⟨dN,i8,cU⟩:=ZH3 fK oN dr;clear fK oN dr c0 c1 c2 c3 c4 c5 c6 c7 c8 cI;obtain⟨c0,c1,c2,c3,c4,c5,c6,c7,c8⟩:=dN.out.nine;have cI:=dN.out.lt;have ym:¬((20:Int)<(n:Int)):=ZO;go_wp2_with fail;go_loopw [90] (λi kZ=>∃q:Nat,q<=n/\i=I_ J_ q/\Hid (K_ wr kZ)) (λi _=>n-(intOf i).toNat)
    case atStart=>exact⟨0,ZO,rfl,ZH (ZKr _)⟩
    case round =>
     obtain⟨q,hq,rfl,ij⟩:=hrel;by_cases du:q<n
     ·obtain⟨e,he⟩:∃e,events[q]? = some e:=⟨_,ZX (by rw[fS];exact du)⟩;have l6:=ZY he;have ep:=ZH (H.out.events e l6);have dR:((e.r:Int)==(r:Int))=true:=by simp[nR e l6]
      have iP:=i8.out.below ij.out.below;obtain⟨bk,off,rfl,cW,e0,e1,e2,e3,e4,e5,e6,e7,e8,e9,jj,jI⟩:=iP.at_ he;have hx:=ZBn wr 89 (evArr e);obtain⟨x0,x1,x2,x3,x4,x5,x6,x7,x8,x9,fh,fi⟩:=hx.ag;have lh:=(dN.out.ob ij.out.below);obtain⟨HX,rV,iF⟩:=ZH3 hx (lh.alloc (C_ (evArr e) 89)) (ij.out.alloc (C_ (evArr e) 89));clear iP he l6 hx lh;go_wp2_with fail;refine(Ze5 e _ ep.out).mono ?_;rintro _ w5 ⟨rfl,dH⟩;have hb:=rV.out.ob dH;have wH:=HX.out.ob dH;obtain⟨b0,b1,_⟩:=hb.nine;have y0:=wH.cell 0;have sH:=hb.lt;have gX:=wH.lt;have fN:=ZH (iF.out.step dH);clear hb wH dH x0 x1 x2 x3 x4 x5 x6 x7 x8 x9 fh fi;go_wp2
      go_roundw
      case rel=>exact⟨q+1,ZO,ZN,fN⟩
      case measure=>simp[intOf];omega
     ·obtain rfl:q=n:=ZO;go_wp2
      go_ret;exact⟨rfl,(cU.out.trans ij.out cU.out.le).below⟩
 ·have eo:clock=ZCz:=H.out.clock0 ZM ZM;have li:events=[]:=H.out.events0 ZM ZM;subst eo li;obtain rfl:n=0:=fS.symm;rw[show Zbo 2=.agg #[B_ false,B_ true,B_ false] from rfl];obtain⟨c0,c1,c2,c3,c4,c5,c6,c7,c8⟩:=dj.out.nine;have cI:=dj.out.lt;go_wp2_with fail;refine(Zb1 upto ZO _).mono ?_;rintro _ w2 ⟨rfl,cD⟩;have cX:=(da.out.alloc (C_ #[B_ false,B_ true,B_ false] 225)).step cD;have dx:=(dj.out.alloc (C_ #[B_ false,B_ true,B_ false] 225)).ob cD;have lN:=(fl.out.below ((ZW w1.heap.size w1).alloc (ZL _) (C_ #[B_ false,B_ true,B_ false] 225))).below cD;have kJ:=(ZBn w1 225 #[B_ false,B_ true,B_ false]).ob cD;obtain⟨d0,d1,d2⟩:=kJ.three;have gX:=kJ.lt;obtain⟨cO,df,fB⟩:=ZH3 cX dx lN;clear cX dx lN kJ cD c0 c1 c2 c3 c4 c5 c6 c7 c8 cI;obtain⟨c0,c1,c2,c3,c4,c5,c6,c7,c8⟩:=df.out.nine;have cI:=df.out.lt;go_wp2_with fail;clear d0 d1 d2 gX;go_loopw [6,65] (λ_ i wr=>∃k:Nat,k<=5/\i=I_ J_ k/\Hid (K_ w2 wr)) (λ_ i _=>5-(intOf i).toNat)
  case atStart=>exact⟨0,ZO,rfl,ZH (ZKr _)⟩
  case round =>
   obtain⟨k,hk,rfl,dG⟩:=hrel;by_cases eM:k<5
   ·have kn:(k:Int)<5:=ZO;have kO:=λw=>Zao ZCz k eM w
    go_wp2_with fail;refine(Zb1 (ZCz.get k) (H.out.clock k) _).mono ?_;rintro _ w3 ⟨rfl,cG⟩;have cU:=ZH (dG.out.step cG);clear cG;go_wp2
    go_roundw
    case rel=>exact⟨k+1,ZO,ZN,cU⟩
    case measure=>simp[intOf];omega
   ·obtain rfl:k=5:=ZO;have fK:=df.out.ob dG.out.below;have oN:=fB.out.below dG.out.below;have dr:=cO.out.trans dG.out cO.out.le;obtain⟨dN,i8,cU⟩:=ZH3 fK oN dr;clear fK oN dr c0 c1 c2 c3 c4 c5 c6 c7 c8 cI;obtain⟨c0,c1,c2,c3,c4,c5,c6,c7,c8⟩:=dN.out.nine;have cI:=dN.out.lt;have ym:¬((20:Int)<(0:Int)):=ZO;go_wp2_with fail;go_loopw [90] (λi kZ=>∃q:Nat,q<=0/\i=I_ J_ q/\Hid (K_ wr kZ)) (λi _=>0-(intOf i).toNat)
    case atStart=>exact⟨0,ZO,rfl,ZH (ZKr _)⟩
    case round =>
     obtain⟨q,hq,rfl,ij⟩:=hrel;by_cases du:q<0
     ·omega
     ·obtain rfl:q=0:=ZO;go_wp2
      go_ret;exact⟨rfl,(cU.out.trans ij.out cU.out.le).below⟩
 ·have dt:upto=0:=H.out.upto0 ZM;have li:events=[]:=H.out.events0 ZM ZM;subst dt li;obtain rfl:n=0:=fS.symm;rw[show Zbo 3=.agg #[B_ false,B_ false,B_ true] from rfl];obtain⟨c0,c1,c2,c3,c4,c5,c6,c7,c8⟩:=dj.out.nine;have cI:=dj.out.lt;go_wp2_with fail;refine(Zb1 0 ZO _).mono ?_;rintro _ w2 ⟨rfl,cD⟩;have cX:=(da.out.alloc (C_ #[B_ false,B_ false,B_ true] 225)).step cD;have dx:=(dj.out.alloc (C_ #[B_ false,B_ false,B_ true] 225)).ob cD;have lN:=(fl.out.below ((ZW w1.heap.size w1).alloc (ZL _) (C_ #[B_ false,B_ false,B_ true] 225))).below cD;have kJ:=(ZBn w1 225 #[B_ false,B_ false,B_ true]).ob cD;obtain⟨d0,d1,d2⟩:=kJ.three;have gX:=kJ.lt;obtain⟨cO,df,fB⟩:=ZH3 cX dx lN;clear cX dx lN kJ cD c0 c1 c2 c3 c4 c5 c6 c7 c8 cI;obtain⟨c0,c1,c2,c3,c4,c5,c6,c7,c8⟩:=df.out.nine;have cI:=df.out.lt;go_wp2_with fail;clear d0 d1 d2 gX;go_loopw [6,65] (λ_ i wr=>∃k:Nat,k<=5/\i=I_ J_ k/\Hid (K_ w2 wr)) (λ_ i _=>5-(intOf i).toNat)
  case atStart=>exact⟨0,ZO,rfl,ZH (ZKr _)⟩
  case round =>
   obtain⟨k,hk,rfl,dG⟩:=hrel;by_cases eM:k<5
   ·have kn:(k:Int)<5:=ZO;have kO:=λw=>Zao clock k eM w
    go_wp2_with fail;refine(Zb1 (clock.get k) (H.out.clock k) _).mono ?_;rintro _ w3 ⟨rfl,cG⟩;have cU:=ZH (dG.out.step cG);clear cG;go_wp2
    go_roundw
    case rel=>exact⟨k+1,ZO,ZN,cU⟩
    case measure=>simp[intOf];omega
   ·obtain rfl:k=5:=ZO;have fK:=df.out.ob dG.out.below;have oN:=fB.out.below dG.out.below;have dr:=cO.out.trans dG.out cO.out.le;obtain⟨dN,i8,cU⟩:=ZH3 fK oN dr;clear fK oN dr c0 c1 c2 c3 c4 c5 c6 c7 c8 cI;obtain⟨c0,c1,c2,c3,c4,c5,c6,c7,c8⟩:=dN.out.nine;have cI:=dN.out.lt;have ym:¬((20:Int)<(0:Int)):=ZO;go_wp2_with fail;go_loopw [90] (λi kZ=>∃q:Nat,q<=0/\i=I_ J_ q/\Hid (K_ wr kZ)) (λi _=>0-(intOf i).toNat)
    case atStart=>exact⟨0,ZO,rfl,ZH (ZKr _)⟩
    case round =>
     obtain⟨q,hq,rfl,ij⟩:=hrel;by_cases du:q<0
     ·omega
     ·obtain rfl:q=0:=ZO;go_wp2
      go_ret;exact⟨rfl,(cU.out.trans ij.out cU.out.le).below⟩
 ·have eo:clock=ZCz:=H.out.clock0 ZM ZM;have dt:upto=0:=H.out.upto0 ZM;subst eo dt;rw[show Zbo 4=.agg #[B_ true,B_ false,B_ false] from rfl];obtain⟨c0,c1,c2,c3,c4,c5,c6,c7,c8⟩:=dj.out.nine;have cI:=dj.out.lt;go_wp2_with fail;refine(Zb1 0 ZO _).mono ?_;rintro _ w2 ⟨rfl,cD⟩;have cX:=(da.out.alloc (C_ #[B_ true,B_ false,B_ false] 225)).step cD;have dx:=(dj.out.alloc (C_ #[B_ true,B_ false,B_ false] 225)).ob cD;have lN:=(fl.out.below ((ZW w1.heap.size w1).alloc (ZL _) (C_ #[B_ true,B_ false,B_ false] 225))).below cD;have kJ:=(ZBn w1 225 #[B_ true,B_ false,B_ false]).ob cD;obtain⟨d0,d1,d2⟩:=kJ.three;have gX:=kJ.lt;obtain⟨cO,df,fB⟩:=ZH3 cX dx lN;clear cX dx lN kJ cD c0 c1 c2 c3 c4 c5 c6 c7 c8 cI;obtain⟨c0,c1,c2,c3,c4,c5,c6,c7,c8⟩:=df.out.nine;have cI:=df.out.lt;go_wp2_with fail;clear d0 d1 d2 gX;go_loopw [6,65] (λ_ i wr=>∃k:Nat,k<=5/\i=I_ J_ k/\Hid (K_ w2 wr)) (λ_ i _=>5-(intOf i).toNat)
  case atStart=>exact⟨0,ZO,rfl,ZH (ZKr _)⟩
  case round =>
   obtain⟨k,hk,rfl,dG⟩:=hrel;by_cases eM:k<5
   ·have kn:(k:Int)<5:=ZO;have kO:=λw=>Zao ZCz k eM w
    go_wp2_with fail;refine(Zb1 (ZCz.get k) (H.out.clock k) _).mono ?_;rintro _ w3 ⟨rfl,cG⟩;have cU:=ZH (dG.out.step cG);clear cG;go_wp2
    go_roundw
    case rel=>exact⟨k+1,ZO,ZN,cU⟩
    case measure=>simp[intOf];omega
   ·obtain rfl:k=5:=ZO;have fK:=df.out.ob dG.out.below;have oN:=fB.out.below dG.out.below;have dr:=cO.out.trans dG.out cO.out.le;obtain⟨dN,i8,cU⟩:=ZH3 fK oN dr;clear fK oN dr c0 c1 c2 c3 c4 c5 c6 c7 c8 cI;obtain⟨c0,c1,c2,c3,c4,c5,c6,c7,c8⟩:=dN.out.nine;have cI:=dN.out.lt;have ym:¬((20:Int)<(n:Int)):=ZO;go_wp2_with fail;go_loopw [90] (λi kZ=>∃q:Nat,q<=n/\i=I_ J_ q/\Hid (K_ wr kZ)) (λi _=>n-(intOf i).toNat)
    case atStart=>exact⟨0,ZO,rfl,ZH (ZKr _)⟩
    case round =>
     obtain⟨q,hq,rfl,ij⟩:=hrel;by_cases du:q<n
     ·obtain⟨e,he⟩:∃e,events[q]? = some e:=⟨_,ZX (by rw[fS];exact du)⟩;have l6:=ZY he;have ep:=ZH (H.out.events e l6);have iP:=i8.out.below ij.out.below;obtain⟨bk,off,rfl,cW,e0,e1,e2,e3,e4,e5,e6,e7,e8,e9,jj,jI⟩:=iP.at_ he;have hx:=ZBn wr 89 (evArr e);obtain⟨x0,x1,x2,x3,x4,x5,x6,x7,x8,x9,fh,fi⟩:=hx.ag;have lh:=(dN.out.ob ij.out.below);obtain⟨HX,rV,iF⟩:=ZH3 hx (lh.alloc (C_ (evArr e) 89)) (ij.out.alloc (C_ (evArr e) 89));clear iP he l6 hx lh;go_wp2_with fail;refine(Ze5 e _ ep.out).mono ?_;rintro _ w5 ⟨rfl,dH⟩;have hb:=rV.out.ob dH;have wH:=HX.out.ob dH;obtain⟨b0,b1,_⟩:=hb.nine;have y0:=wH.cell 0;have sH:=hb.lt;have gX:=wH.lt;have fN:=ZH (iF.out.step dH);clear hb wH dH x0 x1 x2 x3 x4 x5 x6 x7 x8 x9 fh fi;go_wp2
      go_roundw
      case rel=>exact⟨q+1,ZO,ZN,fN⟩
      case measure=>simp[intOf];omega
     ·obtain rfl:q=n:=ZO;go_wp2
      go_ret;exact⟨rfl,(cU.out.trans ij.out cU.out.le).below⟩
 ·have dt:upto=0:=H.out.upto0 ZM;have li:events=[]:=H.out.events0 ZM ZM;subst dt li;obtain rfl:n=0:=fS.symm;rw[show Zbo 5=.agg #[B_ false,B_ false,B_ true] from rfl];obtain⟨c0,c1,c2,c3,c4,c5,c6,c7,c8⟩:=dj.out.nine;have cI:=dj.out.lt;go_wp2_with fail;refine(Zb1 0 ZO _).mono ?_;rintro _ w2 ⟨rfl,cD⟩;have cX:=(da.out.alloc (C_ #[B_ false,B_ false,B_ true] 225)).step cD;have dx:=(dj.out.alloc (C_ #[B_ false,B_ false,B_ true] 225)).ob cD;have lN:=(fl.out.below ((ZW w1.heap.size w1).alloc (ZL _) (C_ #[B_ false,B_ false,B_ true] 225))).below cD;have kJ:=(ZBn w1 225 #[B_ false,B_ false,B_ true]).ob cD;obtain⟨d0,d1,d2⟩:=kJ.three;have gX:=kJ.lt;obtain⟨cO,df,fB⟩:=ZH3 cX dx lN;clear cX dx lN kJ cD c0 c1 c2 c3 c4 c5 c6 c7 c8 cI;obtain⟨c0,c1,c2,c3,c4,c5,c6,c7,c8⟩:=df.out.nine;have cI:=df.out.lt;go_wp2_with fail;clear d0 d1 d2 gX;go_loopw [6,65] (λ_ i wr=>∃k:Nat,k<=5/\i=I_ J_ k/\Hid (K_ w2 wr)) (λ_ i _=>5-(intOf i).toNat)
  case atStart=>exact⟨0,ZO,rfl,ZH (ZKr _)⟩
  case round =>
   obtain⟨k,hk,rfl,dG⟩:=hrel;by_cases eM:k<5
   ·have kn:(k:Int)<5:=ZO;have kO:=λw=>Zao clock k eM w
    go_wp2_with fail;refine(Zb1 (clock.get k) (H.out.clock k) _).mono ?_;rintro _ w3 ⟨rfl,cG⟩;have cU:=ZH (dG.out.step cG);clear cG;go_wp2
    go_roundw
    case rel=>exact⟨k+1,ZO,ZN,cU⟩
    case measure=>simp[intOf];omega
   ·obtain rfl:k=5:=ZO;have fK:=df.out.ob dG.out.below;have oN:=fB.out.below dG.out.below;have dr:=cO.out.trans dG.out cO.out.le;obtain⟨dN,i8,cU⟩:=ZH3 fK oN dr;clear fK oN dr c0 c1 c2 c3 c4 c5 c6 c7 c8 cI;obtain⟨c0,c1,c2,c3,c4,c5,c6,c7,c8⟩:=dN.out.nine;have cI:=dN.out.lt;have ym:¬((20:Int)<(0:Int)):=ZO;go_wp2_with fail;go_loopw [90] (λi kZ=>∃q:Nat,q<=0/\i=I_ J_ q/\Hid (K_ wr kZ)) (λi _=>0-(intOf i).toNat)
    case atStart=>exact⟨0,ZO,rfl,ZH (ZKr _)⟩
    case round =>
     obtain⟨q,hq,rfl,ij⟩:=hrel;by_cases du:q<0
     ·omega
     ·obtain rfl:q=0:=ZO;go_wp2
      go_ret;exact⟨rfl,(cU.out.trans ij.out cU.out.le).below⟩
def Zg(l:List Ev):List Nat:=l.flatMap evBytes
theorem ZcM{l:List Ev}{q:Nat}{e:Ev}(h:l[q]? = some e):Zg (l.take (q+1))=Zg (l.take q)++evBytes e:=by
 rw[List.take_add_one,h];simp[Zg]
theorem Zb3:∀(l:List Ev),(∀e∈l,e.Ok)->(Zg l).length<=60*l.length
 | [],_=>ZL _
 |e::l,h=>by
  have h1:=Zc2 (h e ZM);have h2:=Zb3 l (λx hx=>h x (by simp[hx]));have e1:Zg (e::l)=evBytes e++Zg l:=rfl;rw[e1,ZI,List.length_cons];omega
theorem ZeD:∀(l:List Ev),(∀e∈l,e.Ok)->∀x∈Zg l,x<256
 | [],_,x,hx=>by simp[Zg]at hx
 |e::l,h,x,hx=>by
  have e1:Zg (e::l)=evBytes e++Zg l:=rfl;rw[e1,List.mem_append]at hx;rcases hx with hx|hx
  ·exact ZlK (h e ZM) x hx
  ·exact ZeD l (λx hx=>h x (by simp[hx])) x hx
def Zz(c:Clk):Nat->List Nat
 | 0=>[]
 |k+1=>Zz c k++Zd (c.get k)
theorem Zee{c:Clk}(h:∀i,c.get i<=1048576):∀k,(Zz c k).length<=3*k
 | 0=>ZL _
 |k+1=>by
  have:=Zee h k;have h1:=Zab 2 (c.get k) (by have:=h k;omega);simp only[Zz,ZI];omega
theorem Zgc(c:Clk):∀k,∀x∈Zz c k,x<256
 | 0,x,h=>by simp[Zz]at h
 |k+1,x,h=>by
  simp only[Zz,List.mem_append]at h;rcases h with h|h
  ·exact Zgc c k x h
  ·exact ZaH _ x h
def Zam(f:Frm):List Nat:=[f.kind,f.r]++(if f.kind=1∨f.kind=4 then f.events.length::Zg f.events else if f.kind=2 then Zd f.upto else Zz f.clock 5)
def Zn(f:Frm):List Nat:=ZaF (Zd (Zam f).length++Zam f)
theorem Zbj{f:Frm}(h:f.Ok):∀x∈Zam f,x<256:=by
 have h1:=h.kind5;have h2:=h.r;have h3:=h.len;intro x hx;unfold Zam at hx;rw[List.mem_append]at hx;rcases hx with hx|hx
 ·simp at hx;omega
 ·split at hx
  ·rw[List.mem_cons]at hx;rcases hx with hx|hx
   ·omega
   ·exact ZeD _ h.events x hx
  ·split at hx
   ·exact ZaH _ x hx
   ·exact Zgc _ _ x hx
theorem ZbP{f:Frm}(h:f.Ok):(Zam f).length<=1300:=by
 have h1:=Zb3 _ h.events;have h2:=Zab 2 f.upto (by have:=h.upto;omega);have h3:=Zee h.clock 5;have h4:=h.len;unfold Zam;rw[ZI];split
 ·simp;omega
 ·split <;> simp <;> omega
theorem Zdh(W:World)(x y:Nat):(W.alloc (C_ #[.int .u8 (x:Int),.int .u8 (y:Int)] 5)).ownsRow W.heap.size 5 1 (S_ (some ⟨W.heap.size,0,none⟩) 2 2) [x,y].length (cells [x,y]) :=
 ⟨rfl,.inr ⟨W.heap.size,2,#[.int .u8 x,.int .u8 y],rfl,ZL _,ZBn W 5 _,ZL _,by unfold maxLen;omega,rfl,rfl⟩⟩
theorem Zo3{f:Frm}(h:f.Ok)(dZ:f.kind=2)(hs:EvSl w a n cap f.events):Calls prog 74 #[Zah f (S_ a n cap)] w λr w'=>∃v,r=R_ (.tuple #[v,I_ J_ 0])/\w'.ownsRow w.heap.size 5 1 v (Zn f).length (cells (Zn f))/\Below w.heap.size w w':=by
 have cY:=Zbj h;have cW:=ZbP h;have em:=h;obtain⟨kind,r,upto,clock,events⟩:=f;simp only[]at dZ hs;subst dZ;obtain⟨LL,gp⟩:∃LL,LL=Zam ⟨2,r,upto,clock,events⟩:=⟨_,rfl⟩;rw[←gp]at cY cW;have cR:=(ZKr w).alloc (C_ (Za ⟨2,r,upto,clock,events⟩ (S_ a n cap)) 158);have cP:=ZBn w 158 (Za ⟨2,r,upto,clock,events⟩ (S_ a n cap));have eu:=hs.below cR.below;have hr:=h.r;have dJ:=h.upto;have hlen:=h.len;have fS:=hs.2.2.1;have eD:=h.clock;simp only[]at hr dJ hlen eD;have dD:IntKind.u8.wrap (r:Int)=(r:Int):=by rw[IntKind.wrap_u8];omega
 obtain⟨i0,hi,dd,cV,dc⟩:=info_parts ZaJ;obtain⟨c0,c1,c2,c3,c4,c5,c6,c7,c8⟩:=cP.nine;have cI:=cP.lt;obtain⟨H,ed,eh,fZ,lY,gA,gz⟩:=ZH7 em cR cP eu eD cY gp;clear h em cR cP eu hs eD cY gp;go_enter func74,ntmps74;go_wp2_with fail;refine(Ze1 H.out fZ.out).mono ?_;rintro _ w1 ⟨rfl,cz⟩;have da:=ZH (ed.out.step cz);have dm:=eh.out.ob cz;have fl:=ZH (fZ.out.below cz);clear c0 c1 c2 c3 c4 c5 c6 c7 c8 cI;obtain⟨c0,c1,c2,c3,c4,c5,c6,c7,c8⟩:=dm.nine;have cI:=dm.lt;have dj:=ZH dm;clear dm cz;go_wp2_with fail;refine(ZcL 2 ZO ZO _).mono ?_;rintro _ w2 ⟨rfl,cD⟩;rw[show Zbo 2=.agg #[B_ false,B_ true,B_ false] from rfl];have cO:=ZH (da.out.step cD);have dx:=dj.out.ob cD;have fB:=ZH (fl.out.below cD);clear c0 c1 c2 c3 c4 c5 c6 c7 c8 cI;obtain⟨c0,c1,c2,c3,c4,c5,c6,c7,c8⟩:=dx.nine;have cI:=dx.lt;obtain⟨Bu,iF⟩:=ZH2 ((ZBn w2 225 #[B_ false,B_ true,B_ false]).alloc (C_ #[.int .u8 (2:Nat),.int .u8 (r:Int)] 5)) (((ZKr w2).alloc (C_ #[B_ false,B_ true,B_ false] 225)).alloc (C_ #[.int .u8 (2:Nat),.int .u8 (r:Int)] 5));have jW:=Zj (Zdh (w2.alloc (C_ #[B_ false,B_ true,B_ false] 225)) 2 r) (show w2.heap.size<=_ by simp);rw[show(w2.alloc (C_ #[B_ false,B_ true,B_ false] 225)).heap.size=w2.heap.size+1 by simp]at jW;obtain⟨df,kB⟩:=ZH2 dx jW;clear dx jW cD;go_wp2_with fail;refine(Zbg upto _ ZO).mono ?_;rintro _ w3 ⟨v3,rfl,fd,cG⟩;obtain⟨a3,n8,rfl,gO⟩:=Bytes.ae fd;obtain⟨MD,EJ,JZ⟩:=ZH3 (Ze kB.out cG) (iF.out.step cG) (Bu.out.ob cG);have vx:=Zab 2 upto ZO;clear c0 c1 c2 c3 c4 c5 c6 c7 c8 cI;have NE:=(df.out.ob EJ.out.below);obtain⟨c0,c1,c2,c3,c4,c5,c6,c7,c8⟩:=NE.nine;have hltm:=NE.lt;obtain⟨d0,d1,d2⟩:=JZ.out.three;have gX:=JZ.out.lt;clear NE;have ic:=ZH gO;have iB:=EJ.out.le;clear fd gO cG
 go_wp2_with (first
  |(at_builtin
    refine Zc _ rfl (.tmp 58) (.tmp 62) _ rfl w2.heap.size 5 i0 _ 1 1 underlying106 hi dd cV dc rfl ZO (S_ (some ⟨w2.heap.size+1,0,none⟩) 2 2) 2 (cells [2,r]) rfl MD.out w3.heap.size a3 (Zd upto).length n8 (cells (Zd upto)) rfl ic.out.reads (Z9 _) ZF ZO iB ?_;intro v4 w4 cJ dL _;rw[←Zv,show cells ([2,r]++Zd upto)=cells LL by rw[gz.out];rfl,show 2+(Zd upto).length=LL.length by rw[gz.out];simp[Zam];omega]at cJ;have nr:=JZ.out.grown dL (Ne.symm (Zr MD.out JZ.out ZJ));have HK:Hid (Kept w2.heap.size w2 w4):=ZH (⟨EJ.out.below.grown dL EJ.out.le (λg hg=>(Zb MD.out hg).1),ZT EJ.out.le dL.size⟩);obtain⟨a4,QK,rfl,_⟩:=Bytes.ae cJ;obtain⟨e0,e1,e2⟩:=nr.three;have qY:=nr.lt;have HO:=ZH cJ
    clear cJ nr dL c0 c1 c2 c3 c4 c5 c6 c7 c8 d0 d1 d2))
 refine(Zbg LL.length w4 ZO).mono ?_;rintro _ wp ⟨vp,rfl,ia,fA⟩;obtain⟨ap,cp,rfl,_⟩:=Bytes.ae ia;have lU:=Ze HO.out fA;obtain⟨av,cv,xR,rx⟩:=Bytes.ae lU;injection xR with oh xS ol;subst oh ol;have gQ:=ZH (HK.out.step fA);have gx:=Zab 2 LL.length ZO;obtain⟨jz,tz⟩:=ZH2 ia rx;have dS:=fA.size;clear ia lU rx;go_wp2_with (at_builtin;refine Zc _ rfl (.tmp 80) (.tmp 81) _ rfl w4.heap.size 5 i0 _ 1 1 underlying106 hi dd cV dc rfl ZO (S_ ap (Zd LL.length).length cp) (Zd LL.length).length (cells (Zd LL.length)) rfl jz.out wp.heap.size _ LL.length _ (cells LL) rfl tz.out.reads (Z9 _) ZF ZO dS ?_;intro v7 w7 cF db _)
 rw[←Zv]at cF;obtain⟨a7,xA,rfl,jY⟩:=Bytes.ae cF;have ke:Bytes w7 a7 ((Zd LL.length).length+LL.length) xA (Zd LL.length++LL):=jY;have fx:Hid (Kept w2.heap.size w2 w7):=ZH (⟨gQ.out.below.grown db gQ.out.le (λg hg=>ZT HK.out.le (Zb jz.out hg).1),ZT gQ.out.le db.size⟩);have jh:=ZH ke;clear cF jY ke db fA dS;refine(ZcK jh.out (by intro x hx;rw[List.mem_append]at hx;rcases hx with hx|hx;exact ZaH _ x hx;exact gA.out x hx) ZO).mono ?_;rintro _ w8 ⟨v8,rfl,lx,ga⟩;obtain⟨ni,nf⟩:=ZH2 lx (cO.out.trans (fx.out.step ga) cO.out.le);have oz:=ZT cO.out.le fx.out.le;clear lx ga;go_wp2_with fail;go_ret2
 refine⟨v8,rfl,?_,nf.out.below⟩;have lP:Zn ⟨2,r,upto,clock,events⟩=ZaF (Zd LL.length++LL):=by
  unfold Zn;rw[gz.out]
 rw[lP];exact Zj ni.out oz
theorem Zo2{f:Frm}(h:f.Ok)(dZ:f.kind=1)(hs:EvSl w a n cap f.events):Calls prog 74 #[Zah f (S_ a n cap)] w λr w'=>∃v,r=R_ (.tuple #[v,I_ J_ 0])/\w'.ownsRow w.heap.size 5 1 v (Zn f).length (cells (Zn f))/\Below w.heap.size w w':=by
 have cY:=Zbj h;have cW:=ZbP h;have em:=h;obtain⟨kind,r,upto,clock,events⟩:=f;simp only[]at dZ hs;subst dZ;obtain⟨LL,gp⟩:∃LL,LL=Zam ⟨1,r,upto,clock,events⟩:=⟨_,rfl⟩;rw[←gp]at cY cW;have cR:=(ZKr w).alloc (C_ (Za ⟨1,r,upto,clock,events⟩ (S_ a n cap)) 158);have cP:=ZBn w 158 (Za ⟨1,r,upto,clock,events⟩ (S_ a n cap));have eu:=hs.below cR.below;have hr:=h.r;have dJ:=h.upto;have hlen:=h.len;have fS:=hs.2.2.1;have eD:=h.clock;simp only[]at hr dJ hlen eD;have dD:IntKind.u8.wrap (r:Int)=(r:Int):=by rw[IntKind.wrap_u8];omega
 obtain⟨i0,hi,dd,cV,dc⟩:=info_parts ZaJ;obtain⟨c0,c1,c2,c3,c4,c5,c6,c7,c8⟩:=cP.nine;have cI:=cP.lt;obtain⟨H,ed,eh,fZ,lY,gA,gz⟩:=ZH7 em cR cP eu eD cY gp;clear h em cR cP eu hs eD cY gp;go_enter func74,ntmps74;go_wp2_with fail;refine(Ze1 H.out fZ.out).mono ?_;rintro _ w1 ⟨rfl,cz⟩;have da:=ZH (ed.out.step cz);have dm:=eh.out.ob cz;have fl:=ZH (fZ.out.below cz);clear c0 c1 c2 c3 c4 c5 c6 c7 c8 cI;obtain⟨c0,c1,c2,c3,c4,c5,c6,c7,c8⟩:=dm.nine;have cI:=dm.lt;have dj:=ZH dm;clear dm cz;go_wp2_with fail;refine(ZcL 1 ZO ZO _).mono ?_;rintro _ w2 ⟨rfl,cD⟩;rw[show Zbo 1=.agg #[B_ true,B_ false,B_ false] from rfl];have cO:=ZH (da.out.step cD);have dx:=dj.out.ob cD;have fB:=ZH (fl.out.below cD);clear c0 c1 c2 c3 c4 c5 c6 c7 c8 cI;obtain⟨c0,c1,c2,c3,c4,c5,c6,c7,c8⟩:=dx.nine;have cI:=dx.lt;obtain⟨Bu,iF⟩:=ZH2 ((ZBn w2 225 #[B_ true,B_ false,B_ false]).alloc (C_ #[.int .u8 (1:Nat),.int .u8 (r:Int)] 5)) (((ZKr w2).alloc (C_ #[B_ true,B_ false,B_ false] 225)).alloc (C_ #[.int .u8 (1:Nat),.int .u8 (r:Int)] 5));have jW:=Zj (Zdh (w2.alloc (C_ #[B_ true,B_ false,B_ false] 225)) 1 r) (show w2.heap.size<=_ by simp);rw[show(w2.alloc (C_ #[B_ true,B_ false,B_ false] 225)).heap.size=w2.heap.size+1 by simp]at jW;obtain⟨df,kB⟩:=ZH2 dx jW;clear dx jW cD;have qj:IntKind.u8.wrap (n:Int)=(n:Int):=by rw[IntKind.wrap_u8];omega
 obtain⟨xp,Fp,nX⟩:=ZH3 (kB.out.alloc (C_ #[.int .u8 (n:Int)] 5)) (Bu.out.alloc (C_ #[.int .u8 (n:Int)] 5)) (iF.out.alloc (C_ #[.int .u8 (n:Int)] 5))
 go_wp2_with (first
  |(at_builtin
    refine Zc _ rfl (.tmp 31) (.tmp 36) _ rfl w2.heap.size 5 i0 _ 1 1 underlying106 hi dd cV dc rfl ZO (S_ (some ⟨w2.heap.size+1,0,none⟩) 2 2) 2 (cells [1,r]) rfl xp.out (w2.heap.size+1+1+1) (some ⟨w2.heap.size+1+1,0,none⟩) 1 1 [.int .u8 (n:Int)] rfl (Zh5 ZM _ _) (by intro u hu;simp at hu;subst hu;rfl) ZF ZO nX.out.le ?_;intro v4 w4 cJ dL _;rw[ZdN,show [1,r]++[n]=[1,r,n] from rfl]at cJ;have nr:=Fp.out.grown dL (Ne.symm (Zr xp.out Fp.out ZJ));have nN:Kept w2.heap.size w2 w4:=⟨nX.out.below.grown dL nX.out.le (λg hg=>(Zb xp.out hg).1),ZT nX.out.le dL.size⟩;obtain⟨a4,QK,rfl,_⟩:=Bytes.ae cJ;have cS:=df.out.ob nN.below;clear c0 c1 c2 c3 c4 c5 c6 c7 c8;obtain⟨c0,c1,c2,c3,c4,c5,c6,c7,c8⟩:=cS.nine;have qY:=cS.lt;obtain⟨HO,HK,HX⟩:=ZH3 cJ nN nr
    clear cJ nr nN dL cS))
 clear c0 c1 c2 c3 c4 c5 c6 c7 c8;go_loopw [6,9,10,41] (λv _ _ i wr=>∃q:Nat,q<=n/\i=I_ J_ q/\Hid (wr.ownsRow w2.heap.size 5 1 v ([1,r,n]++Zg (events.take q)).length (cells ([1,r,n]++Zg (events.take q))))/\Hid (Kept w2.heap.size w2 wr)/\Hid (Blk wr w2.heap.size 225 #[B_ true,B_ false,B_ false])) (λ_ _ _ i _=>n-(intOf i).toNat)
 case atStart=>exact⟨0,ZO,rfl,ZH (by simpa [Zg] using HO.out),HK,HX⟩
 case round =>
  skip
  obtain⟨q,hq,rfl,HR,dG,Bx⟩:=hrel;obtain⟨av,cv,rfl,_⟩:=Bytes.ae HR.out;have fX:(Zg (events.take q)).length<=60*20:=by
   have h1:=Zb3 (events.take q) (λe he=>H.out.events e (List.mem_of_mem_take he));have h2:(events.take q).length<=20:=by rw[ZV];omega
   omega
  obtain⟨M,hM⟩:∃M,M=([1,r,n]++Zg (events.take q)).length:=⟨_,rfl⟩;have uB:M<=1300:=by rw[hM];simp;omega
  have fW:=df.out.ob dG.out.below;by_cases du:q<n
  ·rw[←hM]at HR ⊢;have HM:=ZH hM;clear hM fX;obtain⟨e,he⟩:∃e,events[q]? = some e:=⟨_,ZX (by rw[fS];exact du)⟩;have ep:=ZH (H.out.events e (ZY he));have iP:=fB.out.below dG.out.below;obtain⟨bk,off,rfl,cW,e0,e1,e2,e3,e4,e5,e6,e7,e8,e9,jj,jI⟩:=iP.at_ he;have hx:=ZBn wr 89 (evArr e);obtain⟨x0,x1,x2,x3,x4,x5,x6,x7,x8,x9,fh,fi⟩:=hx.ag;obtain⟨gc,t6,tN,M8⟩:=ZH4 (ZcM he) (HR.out.alloc (C_ (evArr e) 89)) (dG.out.alloc (C_ (evArr e) 89)) (Bx.out.alloc (C_ (evArr e) 89));have uR:=Zc2 ep.out;clear iP he hx;go_wp2_with fail;refine(Zeg e _ ep.out).mono ?_;rintro _ w3 ⟨v3,rfl,fd,cG⟩;obtain⟨a3,n8,rfl,gO⟩:=Bytes.ae fd;have fk:=ZH (Ze t6.out cG);have dr:=tN.out.step cG;have iI:=ZH (M8.out.ob cG);have iB:=dr.le;obtain⟨cU,ic⟩:=ZH2 dr gO;clear fd gO dr cG e0 e1 e2 e3 e4 e5 e6 e7 e8 e9 jj jI x0 x1 x2 x3 x4 x5 x6 x7 x8 x9 fh fi
   go_wp2_with (first
    |(at_builtin
      refine Zc _ rfl (.tmp 52) (.tmp 53) _ rfl w2.heap.size 5 i0 _ 1 1 underlying106 hi dd cV dc rfl ZO (S_ av M cv) M (cells ([1,r,n]++Zg (events.take q))) rfl fk.out w3.heap.size a3 (evBytes e).length n8 (cells (evBytes e)) rfl ic.out.reads (Z9 _) ZF ZO iB ?_;intro v4 w4 cJ dL _;rw[←Zv,HM.out,←ZI,List.append_assoc,←gc.out]at cJ;have nr:=iI.out.grown dL (Ne.symm (Zr fk.out iI.out ZJ));have nN:Kept w2.heap.size w2 w4:=⟨cU.out.below.grown dL cU.out.le (λg hg=>(Zb fk.out hg).1),ZT cU.out.le dL.size⟩;obtain⟨dO,dw,jA⟩:=ZH3 cJ nN nr
      clear cJ nN dL nr))
   go_roundw
   case rel=>exact⟨q+1,ZO,ZN,dO,dw,jA⟩
   case measure=>simp[intOf];omega
  ·obtain rfl:q=n:=ZO;rw[ZU ZO,show [1,r,q]++Zg events=LL by rw[gz.out];simp only[Zam];rw[ZPp ZM,fS];rfl]at HR ⊢;have HO:=HR;have HK:=dG;obtain⟨d0,d1,d2⟩:=Bx.out.three;have gX:=Bx.out.lt;clear hM fX;go_wp2_with fail;clear d0 d1 d2;refine(Zbg LL.length wr ZO).mono ?_;rintro _ wp ⟨vp,rfl,ia,fA⟩;obtain⟨ap,cp,rfl,_⟩:=Bytes.ae ia;have lU:=Ze HO.out fA;obtain⟨av,cv,xR,rx⟩:=Bytes.ae lU;injection xR with oh xS ol;subst oh ol;have gQ:=ZH (HK.out.step fA);have gx:=Zab 2 LL.length ZO;obtain⟨jz,tz⟩:=ZH2 ia rx;have dS:=fA.size;clear ia lU rx;go_wp2_with (at_builtin;refine Zc _ rfl (.tmp 80) (.tmp 81) _ rfl wr.heap.size 5 i0 _ 1 1 underlying106 hi dd cV dc rfl ZO (S_ ap (Zd LL.length).length cp) (Zd LL.length).length (cells (Zd LL.length)) rfl jz.out wp.heap.size _ LL.length _ (cells LL) rfl tz.out.reads (Z9 _) ZF ZO dS ?_;intro v7 w7 cF db _)
   rw[←Zv]at cF;obtain⟨a7,xA,rfl,jY⟩:=Bytes.ae cF;have ke:Bytes w7 a7 ((Zd LL.length).length+LL.length) xA (Zd LL.length++LL):=jY;have fx:Hid (Kept w2.heap.size w2 w7):=ZH (⟨gQ.out.below.grown db gQ.out.le (λg hg=>ZT HK.out.le (Zb jz.out hg).1),ZT gQ.out.le db.size⟩);have jh:=ZH ke;clear cF jY ke db fA dS;refine(ZcK jh.out (by intro x hx;rw[List.mem_append]at hx;rcases hx with hx|hx;exact ZaH _ x hx;exact gA.out x hx) ZO).mono ?_;rintro _ w8 ⟨v8,rfl,lx,ga⟩;obtain⟨ni,nf⟩:=ZH2 lx (cO.out.trans (fx.out.step ga) cO.out.le);have oz:=ZT cO.out.le fx.out.le;clear lx ga;go_wp2_with fail;go_ret2
   refine⟨v8,rfl,?_,nf.out.below⟩;have lP:Zn ⟨1,r,upto,clock,events⟩=ZaF (Zd LL.length++LL):=by
    unfold Zn;rw[gz.out]
   rw[lP];exact Zj ni.out oz
theorem Zo5{f:Frm}(h:f.Ok)(dZ:f.kind=4)(hs:EvSl w a n cap f.events):Calls prog 74 #[Zah f (S_ a n cap)] w λr w'=>∃v,r=R_ (.tuple #[v,I_ J_ 0])/\w'.ownsRow w.heap.size 5 1 v (Zn f).length (cells (Zn f))/\Below w.heap.size w w':=by
 have cY:=Zbj h;have cW:=ZbP h;have em:=h;obtain⟨kind,r,upto,clock,events⟩:=f;simp only[]at dZ hs;subst dZ;obtain⟨LL,gp⟩:∃LL,LL=Zam ⟨4,r,upto,clock,events⟩:=⟨_,rfl⟩;rw[←gp]at cY cW;have cR:=(ZKr w).alloc (C_ (Za ⟨4,r,upto,clock,events⟩ (S_ a n cap)) 158);have cP:=ZBn w 158 (Za ⟨4,r,upto,clock,events⟩ (S_ a n cap));have eu:=hs.below cR.below;have hr:=h.r;have dJ:=h.upto;have hlen:=h.len;have fS:=hs.2.2.1;have eD:=h.clock;simp only[]at hr dJ hlen eD;have dD:IntKind.u8.wrap (r:Int)=(r:Int):=by rw[IntKind.wrap_u8];omega
 obtain⟨i0,hi,dd,cV,dc⟩:=info_parts ZaJ;obtain⟨c0,c1,c2,c3,c4,c5,c6,c7,c8⟩:=cP.nine;have cI:=cP.lt;obtain⟨H,ed,eh,fZ,lY,gA,gz⟩:=ZH7 em cR cP eu eD cY gp;clear h em cR cP eu hs eD cY gp;go_enter func74,ntmps74;go_wp2_with fail;refine(Ze1 H.out fZ.out).mono ?_;rintro _ w1 ⟨rfl,cz⟩;have da:=ZH (ed.out.step cz);have dm:=eh.out.ob cz;have fl:=ZH (fZ.out.below cz);clear c0 c1 c2 c3 c4 c5 c6 c7 c8 cI;obtain⟨c0,c1,c2,c3,c4,c5,c6,c7,c8⟩:=dm.nine;have cI:=dm.lt;have dj:=ZH dm;clear dm cz;go_wp2_with fail;refine(ZcL 4 ZO ZO _).mono ?_;rintro _ w2 ⟨rfl,cD⟩;rw[show Zbo 4=.agg #[B_ true,B_ false,B_ false] from rfl];have cO:=ZH (da.out.step cD);have dx:=dj.out.ob cD;have fB:=ZH (fl.out.below cD);clear c0 c1 c2 c3 c4 c5 c6 c7 c8 cI;obtain⟨c0,c1,c2,c3,c4,c5,c6,c7,c8⟩:=dx.nine;have cI:=dx.lt;obtain⟨Bu,iF⟩:=ZH2 ((ZBn w2 225 #[B_ true,B_ false,B_ false]).alloc (C_ #[.int .u8 (4:Nat),.int .u8 (r:Int)] 5)) (((ZKr w2).alloc (C_ #[B_ true,B_ false,B_ false] 225)).alloc (C_ #[.int .u8 (4:Nat),.int .u8 (r:Int)] 5));have jW:=Zj (Zdh (w2.alloc (C_ #[B_ true,B_ false,B_ false] 225)) 4 r) (show w2.heap.size<=_ by simp);rw[show(w2.alloc (C_ #[B_ true,B_ false,B_ false] 225)).heap.size=w2.heap.size+1 by simp]at jW;obtain⟨df,kB⟩:=ZH2 dx jW;clear dx jW cD;have qj:IntKind.u8.wrap (n:Int)=(n:Int):=by rw[IntKind.wrap_u8];omega
 obtain⟨xp,Fp,nX⟩:=ZH3 (kB.out.alloc (C_ #[.int .u8 (n:Int)] 5)) (Bu.out.alloc (C_ #[.int .u8 (n:Int)] 5)) (iF.out.alloc (C_ #[.int .u8 (n:Int)] 5))
 go_wp2_with (first
  |(at_builtin
    refine Zc _ rfl (.tmp 31) (.tmp 36) _ rfl w2.heap.size 5 i0 _ 1 1 underlying106 hi dd cV dc rfl ZO (S_ (some ⟨w2.heap.size+1,0,none⟩) 2 2) 2 (cells [4,r]) rfl xp.out (w2.heap.size+1+1+1) (some ⟨w2.heap.size+1+1,0,none⟩) 1 1 [.int .u8 (n:Int)] rfl (Zh5 ZM _ _) (by intro u hu;simp at hu;subst hu;rfl) ZF ZO nX.out.le ?_;intro v4 w4 cJ dL _;rw[ZdN,show [4,r]++[n]=[4,r,n] from rfl]at cJ;have nr:=Fp.out.grown dL (Ne.symm (Zr xp.out Fp.out ZJ));have nN:Kept w2.heap.size w2 w4:=⟨nX.out.below.grown dL nX.out.le (λg hg=>(Zb xp.out hg).1),ZT nX.out.le dL.size⟩;obtain⟨a4,QK,rfl,_⟩:=Bytes.ae cJ;have cS:=df.out.ob nN.below;clear c0 c1 c2 c3 c4 c5 c6 c7 c8;obtain⟨c0,c1,c2,c3,c4,c5,c6,c7,c8⟩:=cS.nine;have qY:=cS.lt;obtain⟨HO,HK,HX⟩:=ZH3 cJ nN nr
    clear cJ nr nN dL cS))
 clear c0 c1 c2 c3 c4 c5 c6 c7 c8;go_loopw [6,9,10,41] (λv _ _ i wr=>∃q:Nat,q<=n/\i=I_ J_ q/\Hid (wr.ownsRow w2.heap.size 5 1 v ([4,r,n]++Zg (events.take q)).length (cells ([4,r,n]++Zg (events.take q))))/\Hid (Kept w2.heap.size w2 wr)/\Hid (Blk wr w2.heap.size 225 #[B_ true,B_ false,B_ false])) (λ_ _ _ i _=>n-(intOf i).toNat)
 case atStart=>exact⟨0,ZO,rfl,ZH (by simpa [Zg] using HO.out),HK,HX⟩
 case round =>
  skip
  obtain⟨q,hq,rfl,HR,dG,Bx⟩:=hrel;obtain⟨av,cv,rfl,_⟩:=Bytes.ae HR.out;have fX:(Zg (events.take q)).length<=60*20:=by
   have h1:=Zb3 (events.take q) (λe he=>H.out.events e (List.mem_of_mem_take he));have h2:(events.take q).length<=20:=by rw[ZV];omega
   omega
  obtain⟨M,hM⟩:∃M,M=([4,r,n]++Zg (events.take q)).length:=⟨_,rfl⟩;have uB:M<=1300:=by rw[hM];simp;omega
  have fW:=df.out.ob dG.out.below;by_cases du:q<n
  ·rw[←hM]at HR ⊢;have HM:=ZH hM;clear hM fX;obtain⟨e,he⟩:∃e,events[q]? = some e:=⟨_,ZX (by rw[fS];exact du)⟩;have ep:=ZH (H.out.events e (ZY he));have iP:=fB.out.below dG.out.below;obtain⟨bk,off,rfl,cW,e0,e1,e2,e3,e4,e5,e6,e7,e8,e9,jj,jI⟩:=iP.at_ he;have hx:=ZBn wr 89 (evArr e);obtain⟨x0,x1,x2,x3,x4,x5,x6,x7,x8,x9,fh,fi⟩:=hx.ag;obtain⟨gc,t6,tN,M8⟩:=ZH4 (ZcM he) (HR.out.alloc (C_ (evArr e) 89)) (dG.out.alloc (C_ (evArr e) 89)) (Bx.out.alloc (C_ (evArr e) 89));have uR:=Zc2 ep.out;clear iP he hx;go_wp2_with fail;refine(Zeg e _ ep.out).mono ?_;rintro _ w3 ⟨v3,rfl,fd,cG⟩;obtain⟨a3,n8,rfl,gO⟩:=Bytes.ae fd;have fk:=ZH (Ze t6.out cG);have dr:=tN.out.step cG;have iI:=ZH (M8.out.ob cG);have iB:=dr.le;obtain⟨cU,ic⟩:=ZH2 dr gO;clear fd gO dr cG e0 e1 e2 e3 e4 e5 e6 e7 e8 e9 jj jI x0 x1 x2 x3 x4 x5 x6 x7 x8 x9 fh fi
   go_wp2_with (first
    |(at_builtin
      refine Zc _ rfl (.tmp 52) (.tmp 53) _ rfl w2.heap.size 5 i0 _ 1 1 underlying106 hi dd cV dc rfl ZO (S_ av M cv) M (cells ([4,r,n]++Zg (events.take q))) rfl fk.out w3.heap.size a3 (evBytes e).length n8 (cells (evBytes e)) rfl ic.out.reads (Z9 _) ZF ZO iB ?_;intro v4 w4 cJ dL _;rw[←Zv,HM.out,←ZI,List.append_assoc,←gc.out]at cJ;have nr:=iI.out.grown dL (Ne.symm (Zr fk.out iI.out ZJ));have nN:Kept w2.heap.size w2 w4:=⟨cU.out.below.grown dL cU.out.le (λg hg=>(Zb fk.out hg).1),ZT cU.out.le dL.size⟩;obtain⟨dO,dw,jA⟩:=ZH3 cJ nN nr
      clear cJ nN dL nr))
   go_roundw
   case rel=>exact⟨q+1,ZO,ZN,dO,dw,jA⟩
   case measure=>simp[intOf];omega
  ·obtain rfl:q=n:=ZO;rw[ZU ZO,show [4,r,q]++Zg events=LL by rw[gz.out];simp only[Zam];rw[ZPp ZM,fS];rfl]at HR ⊢;have HO:=HR;have HK:=dG;obtain⟨d0,d1,d2⟩:=Bx.out.three;have gX:=Bx.out.lt;clear hM fX;go_wp2_with fail;clear d0 d1 d2;refine(Zbg LL.length wr ZO).mono ?_;rintro _ wp ⟨vp,rfl,ia,fA⟩;obtain⟨ap,cp,rfl,_⟩:=Bytes.ae ia;have lU:=Ze HO.out fA;obtain⟨av,cv,xR,rx⟩:=Bytes.ae lU;injection xR with oh xS ol;subst oh ol;have gQ:=ZH (HK.out.step fA);have gx:=Zab 2 LL.length ZO;obtain⟨jz,tz⟩:=ZH2 ia rx;have dS:=fA.size;clear ia lU rx;go_wp2_with (at_builtin;refine Zc _ rfl (.tmp 80) (.tmp 81) _ rfl wr.heap.size 5 i0 _ 1 1 underlying106 hi dd cV dc rfl ZO (S_ ap (Zd LL.length).length cp) (Zd LL.length).length (cells (Zd LL.length)) rfl jz.out wp.heap.size _ LL.length _ (cells LL) rfl tz.out.reads (Z9 _) ZF ZO dS ?_;intro v7 w7 cF db _)
   rw[←Zv]at cF;obtain⟨a7,xA,rfl,jY⟩:=Bytes.ae cF;have ke:Bytes w7 a7 ((Zd LL.length).length+LL.length) xA (Zd LL.length++LL):=jY;have fx:Hid (Kept w2.heap.size w2 w7):=ZH (⟨gQ.out.below.grown db gQ.out.le (λg hg=>ZT HK.out.le (Zb jz.out hg).1),ZT gQ.out.le db.size⟩);have jh:=ZH ke;clear cF jY ke db fA dS;refine(ZcK jh.out (by intro x hx;rw[List.mem_append]at hx;rcases hx with hx|hx;exact ZaH _ x hx;exact gA.out x hx) ZO).mono ?_;rintro _ w8 ⟨v8,rfl,lx,ga⟩;obtain⟨ni,nf⟩:=ZH2 lx (cO.out.trans (fx.out.step ga) cO.out.le);have oz:=ZT cO.out.le fx.out.le;clear lx ga;go_wp2_with fail;go_ret2
   refine⟨v8,rfl,?_,nf.out.below⟩;have lP:Zn ⟨4,r,upto,clock,events⟩=ZaF (Zd LL.length++LL):=by
    unfold Zn;rw[gz.out]
   rw[lP];exact Zj ni.out oz
theorem Zo4{f:Frm}(h:f.Ok)(dZ:f.kind=3)(hs:EvSl w a n cap f.events):Calls prog 74 #[Zah f (S_ a n cap)] w λr w'=>∃v,r=R_ (.tuple #[v,I_ J_ 0])/\w'.ownsRow w.heap.size 5 1 v (Zn f).length (cells (Zn f))/\Below w.heap.size w w':=by
 have cY:=Zbj h;have cW:=ZbP h;have em:=h;obtain⟨kind,r,upto,clock,events⟩:=f;simp only[]at dZ hs;subst dZ;obtain⟨LL,gp⟩:∃LL,LL=Zam ⟨3,r,upto,clock,events⟩:=⟨_,rfl⟩;rw[←gp]at cY cW;have cR:=(ZKr w).alloc (C_ (Za ⟨3,r,upto,clock,events⟩ (S_ a n cap)) 158);have cP:=ZBn w 158 (Za ⟨3,r,upto,clock,events⟩ (S_ a n cap));have eu:=hs.below cR.below;have hr:=h.r;have dJ:=h.upto;have hlen:=h.len;have fS:=hs.2.2.1;have eD:=h.clock;simp only[]at hr dJ hlen eD;have dD:IntKind.u8.wrap (r:Int)=(r:Int):=by rw[IntKind.wrap_u8];omega
 obtain⟨i0,hi,dd,cV,dc⟩:=info_parts ZaJ;obtain⟨c0,c1,c2,c3,c4,c5,c6,c7,c8⟩:=cP.nine;have cI:=cP.lt;obtain⟨H,ed,eh,fZ,lY,gA,gz⟩:=ZH7 em cR cP eu eD cY gp;clear h em cR cP eu hs eD cY gp;go_enter func74,ntmps74;go_wp2_with fail;refine(Ze1 H.out fZ.out).mono ?_;rintro _ w1 ⟨rfl,cz⟩;have da:=ZH (ed.out.step cz);have dm:=eh.out.ob cz;have fl:=ZH (fZ.out.below cz);clear c0 c1 c2 c3 c4 c5 c6 c7 c8 cI;obtain⟨c0,c1,c2,c3,c4,c5,c6,c7,c8⟩:=dm.nine;have cI:=dm.lt;have dj:=ZH dm;clear dm cz;go_wp2_with fail;refine(ZcL 3 ZO ZO _).mono ?_;rintro _ w2 ⟨rfl,cD⟩;rw[show Zbo 3=.agg #[B_ false,B_ false,B_ true] from rfl];have cO:=ZH (da.out.step cD);have dx:=dj.out.ob cD;have fB:=ZH (fl.out.below cD);clear c0 c1 c2 c3 c4 c5 c6 c7 c8 cI;obtain⟨c0,c1,c2,c3,c4,c5,c6,c7,c8⟩:=dx.nine;have cI:=dx.lt;obtain⟨Bu,iF⟩:=ZH2 ((ZBn w2 225 #[B_ false,B_ false,B_ true]).alloc (C_ #[.int .u8 (3:Nat),.int .u8 (r:Int)] 5)) (((ZKr w2).alloc (C_ #[B_ false,B_ false,B_ true] 225)).alloc (C_ #[.int .u8 (3:Nat),.int .u8 (r:Int)] 5));have jW:=Zj (Zdh (w2.alloc (C_ #[B_ false,B_ false,B_ true] 225)) 3 r) (show w2.heap.size<=_ by simp);rw[show(w2.alloc (C_ #[B_ false,B_ false,B_ true] 225)).heap.size=w2.heap.size+1 by simp]at jW;obtain⟨df,kB⟩:=ZH2 dx jW;clear dx jW cD;go_wp2_with fail;clear c0 c1 c2 c3 c4 c5 c6 c7 c8 cI;go_loopw [6,12,68] (λv _ i wr=>∃k:Nat,k<=5/\i=I_ J_ k/\Hid (wr.ownsRow w2.heap.size 5 1 v ([3,r]++Zz clock k).length (cells ([3,r]++Zz clock k)))/\Hid (Kept w2.heap.size w2 wr)) (λ_ _ i _=>5-(intOf i).toNat)
 case atStart=>exact⟨0,ZO,rfl,ZH (by simpa [Zz] using kB.out),iF⟩
 case round =>
  obtain⟨k,hk,rfl,HR,dG⟩:=hrel;obtain⟨av,cv,rfl,_⟩:=Bytes.ae HR.out;have fg:=Zee lY.out k;by_cases eM:k<5
  ·have kn:(k:Int)<5:=ZO;have kO:=λw=>Zao clock k eM w
   have eD:=lY.out k;obtain⟨M,hM⟩:∃M,M=([3,r]++Zz clock k).length:=⟨_,rfl⟩;have uB:M<=100:=by rw[hM];simp;omega
   rw[←hM]at HR ⊢;have HM:=ZH hM;clear hM fg;go_wp2_with fail;refine(Zbg (clock.get k) wr ZO).mono ?_;rintro _ w3 ⟨v3,rfl,fd,cG⟩;obtain⟨a3,n8,rfl,gO⟩:=Bytes.ae fd;have fk:=ZH (Ze HR.out cG);have dr:=dG.out.step cG;have vx:=Zab 2 (clock.get k) ZO;have iB:=dr.le;obtain⟨cU,ic⟩:=ZH2 dr gO;clear fd gO dr cG
   go_wp2_with (first
    |(at_builtin
      refine Zc _ rfl (.tmp 71) (.tmp 74) _ rfl w2.heap.size 5 i0 _ 1 1 underlying106 hi dd cV dc rfl ZO (S_ av M cv) M (cells ([3,r]++Zz clock k)) rfl fk.out w3.heap.size a3 (Zd (clock.get k)).length n8 (cells (Zd (clock.get k))) rfl ic.out.reads (Z9 _) ZF ZO iB ?_;intro v4 w4 cJ dL _;rw[←Zv,HM.out,←ZI,List.append_assoc,show Zz clock k++Zd (clock.get k)=Zz clock (k+1) from rfl]at cJ;have dw:Hid (Kept w2.heap.size w2 w4):=ZH (⟨cU.out.below.grown dL cU.out.le (λg hg=>(Zb fk.out hg).1),ZT cU.out.le dL.size⟩);have dO:=ZH cJ
      clear cJ dL))
   go_roundw
   case rel=>exact⟨k+1,ZO,ZN,dO,dw⟩
   case measure=>simp[intOf];omega
  ·obtain rfl:k=5:=ZO;rw[show [3,r]++Zz clock 5=LL by rw[gz.out];rfl]at HR ⊢;have HO:=HR;have HK:=dG;go_wp2_with fail;refine(Zbg LL.length wr ZO).mono ?_;rintro _ wp ⟨vp,rfl,ia,fA⟩;obtain⟨ap,cp,rfl,_⟩:=Bytes.ae ia;have lU:=Ze HO.out fA;obtain⟨av,cv,xR,rx⟩:=Bytes.ae lU;injection xR with oh xS ol;subst oh ol;have gQ:=ZH (HK.out.step fA);have gx:=Zab 2 LL.length ZO;obtain⟨jz,tz⟩:=ZH2 ia rx;have dS:=fA.size;clear ia lU rx;go_wp2_with (at_builtin;refine Zc _ rfl (.tmp 80) (.tmp 81) _ rfl wr.heap.size 5 i0 _ 1 1 underlying106 hi dd cV dc rfl ZO (S_ ap (Zd LL.length).length cp) (Zd LL.length).length (cells (Zd LL.length)) rfl jz.out wp.heap.size _ LL.length _ (cells LL) rfl tz.out.reads (Z9 _) ZF ZO dS ?_;intro v7 w7 cF db _)
   rw[←Zv]at cF;obtain⟨a7,xA,rfl,jY⟩:=Bytes.ae cF;have ke:Bytes w7 a7 ((Zd LL.length).length+LL.length) xA (Zd LL.length++LL):=jY;have fx:Hid (Kept w2.heap.size w2 w7):=ZH (⟨gQ.out.below.grown db gQ.out.le (λg hg=>ZT HK.out.le (Zb jz.out hg).1),ZT gQ.out.le db.size⟩);have jh:=ZH ke;clear cF jY ke db fA dS;refine(ZcK jh.out (by intro x hx;rw[List.mem_append]at hx;rcases hx with hx|hx;exact ZaH _ x hx;exact gA.out x hx) ZO).mono ?_;rintro _ w8 ⟨v8,rfl,lx,ga⟩;obtain⟨ni,nf⟩:=ZH2 lx (cO.out.trans (fx.out.step ga) cO.out.le);have oz:=ZT cO.out.le fx.out.le;clear lx ga;go_wp2_with fail;go_ret2
   refine⟨v8,rfl,?_,nf.out.below⟩;have lP:Zn ⟨3,r,upto,clock,events⟩=ZaF (Zd LL.length++LL):=by
    unfold Zn;rw[gz.out]
   rw[lP];exact Zj ni.out oz
theorem Zo6{f:Frm}(h:f.Ok)(dZ:f.kind=5)(hs:EvSl w a n cap f.events):Calls prog 74 #[Zah f (S_ a n cap)] w λr w'=>∃v,r=R_ (.tuple #[v,I_ J_ 0])/\w'.ownsRow w.heap.size 5 1 v (Zn f).length (cells (Zn f))/\Below w.heap.size w w':=by
 have cY:=Zbj h;have cW:=ZbP h;have em:=h;obtain⟨kind,r,upto,clock,events⟩:=f;simp only[]at dZ hs;subst dZ;obtain⟨LL,gp⟩:∃LL,LL=Zam ⟨5,r,upto,clock,events⟩:=⟨_,rfl⟩;rw[←gp]at cY cW;have cR:=(ZKr w).alloc (C_ (Za ⟨5,r,upto,clock,events⟩ (S_ a n cap)) 158);have cP:=ZBn w 158 (Za ⟨5,r,upto,clock,events⟩ (S_ a n cap));have eu:=hs.below cR.below;have hr:=h.r;have dJ:=h.upto;have hlen:=h.len;have fS:=hs.2.2.1;have eD:=h.clock;simp only[]at hr dJ hlen eD;have dD:IntKind.u8.wrap (r:Int)=(r:Int):=by rw[IntKind.wrap_u8];omega
 obtain⟨i0,hi,dd,cV,dc⟩:=info_parts ZaJ;obtain⟨c0,c1,c2,c3,c4,c5,c6,c7,c8⟩:=cP.nine;have cI:=cP.lt;obtain⟨H,ed,eh,fZ,lY,gA,gz⟩:=ZH7 em cR cP eu eD cY gp;clear h em cR cP eu hs eD cY gp;go_enter func74,ntmps74;go_wp2_with fail;refine(Ze1 H.out fZ.out).mono ?_;rintro _ w1 ⟨rfl,cz⟩;have da:=ZH (ed.out.step cz);have dm:=eh.out.ob cz;have fl:=ZH (fZ.out.below cz);clear c0 c1 c2 c3 c4 c5 c6 c7 c8 cI;obtain⟨c0,c1,c2,c3,c4,c5,c6,c7,c8⟩:=dm.nine;have cI:=dm.lt;have dj:=ZH dm;clear dm cz;go_wp2_with fail;refine(ZcL 5 ZO ZO _).mono ?_;rintro _ w2 ⟨rfl,cD⟩;rw[show Zbo 5=.agg #[B_ false,B_ false,B_ true] from rfl];have cO:=ZH (da.out.step cD);have dx:=dj.out.ob cD;have fB:=ZH (fl.out.below cD);clear c0 c1 c2 c3 c4 c5 c6 c7 c8 cI;obtain⟨c0,c1,c2,c3,c4,c5,c6,c7,c8⟩:=dx.nine;have cI:=dx.lt;obtain⟨Bu,iF⟩:=ZH2 ((ZBn w2 225 #[B_ false,B_ false,B_ true]).alloc (C_ #[.int .u8 (5:Nat),.int .u8 (r:Int)] 5)) (((ZKr w2).alloc (C_ #[B_ false,B_ false,B_ true] 225)).alloc (C_ #[.int .u8 (5:Nat),.int .u8 (r:Int)] 5));have jW:=Zj (Zdh (w2.alloc (C_ #[B_ false,B_ false,B_ true] 225)) 5 r) (show w2.heap.size<=_ by simp);rw[show(w2.alloc (C_ #[B_ false,B_ false,B_ true] 225)).heap.size=w2.heap.size+1 by simp]at jW;obtain⟨df,kB⟩:=ZH2 dx jW;clear dx jW cD;go_wp2_with fail;clear c0 c1 c2 c3 c4 c5 c6 c7 c8 cI;go_loopw [6,12,68] (λv _ i wr=>∃k:Nat,k<=5/\i=I_ J_ k/\Hid (wr.ownsRow w2.heap.size 5 1 v ([5,r]++Zz clock k).length (cells ([5,r]++Zz clock k)))/\Hid (Kept w2.heap.size w2 wr)) (λ_ _ i _=>5-(intOf i).toNat)
 case atStart=>exact⟨0,ZO,rfl,ZH (by simpa [Zz] using kB.out),iF⟩
 case round =>
  obtain⟨k,hk,rfl,HR,dG⟩:=hrel;obtain⟨av,cv,rfl,_⟩:=Bytes.ae HR.out;have fg:=Zee lY.out k;by_cases eM:k<5
  ·have kn:(k:Int)<5:=ZO;have kO:=λw=>Zao clock k eM w
   have eD:=lY.out k;obtain⟨M,hM⟩:∃M,M=([5,r]++Zz clock k).length:=⟨_,rfl⟩;have uB:M<=100:=by rw[hM];simp;omega
   rw[←hM]at HR ⊢;have HM:=ZH hM;clear hM fg;go_wp2_with fail;refine(Zbg (clock.get k) wr ZO).mono ?_;rintro _ w3 ⟨v3,rfl,fd,cG⟩;obtain⟨a3,n8,rfl,gO⟩:=Bytes.ae fd;have fk:=ZH (Ze HR.out cG);have dr:=dG.out.step cG;have vx:=Zab 2 (clock.get k) ZO;have iB:=dr.le;obtain⟨cU,ic⟩:=ZH2 dr gO;clear fd gO dr cG
   go_wp2_with (first
    |(at_builtin
      refine Zc _ rfl (.tmp 71) (.tmp 74) _ rfl w2.heap.size 5 i0 _ 1 1 underlying106 hi dd cV dc rfl ZO (S_ av M cv) M (cells ([5,r]++Zz clock k)) rfl fk.out w3.heap.size a3 (Zd (clock.get k)).length n8 (cells (Zd (clock.get k))) rfl ic.out.reads (Z9 _) ZF ZO iB ?_;intro v4 w4 cJ dL _;rw[←Zv,HM.out,←ZI,List.append_assoc,show Zz clock k++Zd (clock.get k)=Zz clock (k+1) from rfl]at cJ;have dw:Hid (Kept w2.heap.size w2 w4):=ZH (⟨cU.out.below.grown dL cU.out.le (λg hg=>(Zb fk.out hg).1),ZT cU.out.le dL.size⟩);have dO:=ZH cJ
      clear cJ dL))
   go_roundw
   case rel=>exact⟨k+1,ZO,ZN,dO,dw⟩
   case measure=>simp[intOf];omega
  ·obtain rfl:k=5:=ZO;rw[show [5,r]++Zz clock 5=LL by rw[gz.out];rfl]at HR ⊢;have HO:=HR;have HK:=dG;go_wp2_with fail;refine(Zbg LL.length wr ZO).mono ?_;rintro _ wp ⟨vp,rfl,ia,fA⟩;obtain⟨ap,cp,rfl,_⟩:=Bytes.ae ia;have lU:=Ze HO.out fA;obtain⟨av,cv,xR,rx⟩:=Bytes.ae lU;injection xR with oh xS ol;subst oh ol;have gQ:=ZH (HK.out.step fA);have gx:=Zab 2 LL.length ZO;obtain⟨jz,tz⟩:=ZH2 ia rx;have dS:=fA.size;clear ia lU rx;go_wp2_with (at_builtin;refine Zc _ rfl (.tmp 80) (.tmp 81) _ rfl wr.heap.size 5 i0 _ 1 1 underlying106 hi dd cV dc rfl ZO (S_ ap (Zd LL.length).length cp) (Zd LL.length).length (cells (Zd LL.length)) rfl jz.out wp.heap.size _ LL.length _ (cells LL) rfl tz.out.reads (Z9 _) ZF ZO dS ?_;intro v7 w7 cF db _)
   rw[←Zv]at cF;obtain⟨a7,xA,rfl,jY⟩:=Bytes.ae cF;have ke:Bytes w7 a7 ((Zd LL.length).length+LL.length) xA (Zd LL.length++LL):=jY;have fx:Hid (Kept w2.heap.size w2 w7):=ZH (⟨gQ.out.below.grown db gQ.out.le (λg hg=>ZT HK.out.le (Zb jz.out hg).1),ZT gQ.out.le db.size⟩);have jh:=ZH ke;clear cF jY ke db fA dS;refine(ZcK jh.out (by intro x hx;rw[List.mem_append]at hx;rcases hx with hx|hx;exact ZaH _ x hx;exact gA.out x hx) ZO).mono ?_;rintro _ w8 ⟨v8,rfl,lx,ga⟩;obtain⟨ni,nf⟩:=ZH2 lx (cO.out.trans (fx.out.step ga) cO.out.le);have oz:=ZT cO.out.le fx.out.le;clear lx ga;go_wp2_with fail;go_ret2
   refine⟨v8,rfl,?_,nf.out.below⟩;have lP:Zn ⟨5,r,upto,clock,events⟩=ZaF (Zd LL.length++LL):=by
    unfold Zn;rw[gz.out]
   rw[lP];exact Zj ni.out oz
theorem Zf4{f:Frm}(h:f.Ok)(hs:EvSl w a n cap f.events):Calls prog 74 #[Zah f (S_ a n cap)] w λr w'=>∃v,r=R_ (.tuple #[v,I_ J_ 0])/\w'.ownsRow w.heap.size 5 1 v (Zn f).length (cells (Zn f))/\L_ w w':=by
 have h1:=h.kind1;have h5:=h.kind5;rcases(by omega:f.kind=1∨f.kind=2∨f.kind=3∨f.kind=4∨f.kind=5) with hk|hk|hk|hk|hk
 ·exact Zo2 h hk hs
 ·exact Zo3 h hk hs
 ·exact Zo4 h hk hs
 ·exact Zo5 h hk hs
 ·exact Zo6 h hk hs
theorem ZfQ(h:Bytes w a n cap l)(hs:∀x∈l,x<256)(m:Nat)(hm:m<=1048576)(rest:List Nat)(hl:l=Zd m++rest):
  Calls prog 175 #[S_ a n cap] w (Zx (.tuple #[I_ J_ m,I_ J_ (Zd m).length,B_ true]) w):=by
 have jq:=ZH (Zc8 h hs);have gD:=Zc9 m rest ZO;rw[←hl]at gD;have Sw:IntKind.i64.wrap (m:Int)=(m:Int):=IntWalk.i64_in _ ZO;have hd:¬((1048576:Int)<(m:Int)):=ZO;have mj:=ZH gD;clear gD h hs hl;generalize (Zd m).length=k at *;go_enter func175,ntmps175;go_wp2_with fail;refine jq.out.mono ?_;rintro e w1 hP;obtain⟨rfl,rfl⟩:e=R_ (.tuple #[.int .u64 m,I_ J_ k,I_ J_ ((0:Nat):Int)])/\w=w1:=by
  have gB:=hP;unfold Za0 at gB;rw[mj.out]at gB;exact gB
 clear hP;go_wp2_with fail;go_ret3
 exact⟨rfl,ZW _ _⟩
theorem Bytes.rest{b off:Nat}(h:Bytes w (some ⟨b,off,none⟩) n cap l){k:Nat}(hk:k<=n):Bytes w (if cap=k then some ⟨b,off,none⟩ else some ⟨b,off+k,none⟩) (n-k) (cap-k) (l.drop k):=by
 have hlen:=h.len;have h1:=h.1;have h2:=h.2.1;rcases Nat.lt_or_ge k n with cI|lr
 ·obtain⟨b',PC,he,hd⟩:=h.drop cI;injection he with he;injection he with fR qe;subst fR qe;rw[ZPn ZO];exact hd
 ·refine⟨ZO,ZO,.inl ⟨ZO,List.drop_of_length_le ZO⟩⟩
theorem ZlN(h:Bytes w a n cap l)(rest:List Nat)(hl:l=0::rest):
  Calls prog 174 #[S_ a n cap] w λr w'=>r=R_ (.tuple #[S_ none 0 0,B_ true])/\L_ w w':=by
 have fm:=h.len;have qi:1<=n:=by
  rw[←fm,hl];simp
 obtain⟨b,off,rfl,hb,hc⟩:=h.pos ZO;have c0:=hc 0 ZO;rw[show l.getD 0 0=0 by rw[hl];rfl,Nat.add_zero]at c0;have gG:=h.1;have V2:(1:Int)<=(n:Int):=ZO;have B8:(1:Int)<=(cap:Int):=ZO;have gi:((n:Int)==0)=false:=ZP;have HK:=ZH (ZKr w);clear h hl hc;go_enter func174,ntmps174;go_wp2_with fail
 all_goals
  go_loopw [4,19] (λv i wr=>v=S_ none 0 0/\i=I_ J_ 0/\Hid (K_ w wr)) (λ_ _ _=>0)
  case atStart=>exact⟨rfl,rfl,HK⟩
  case round =>
   obtain⟨rfl,rfl,dG⟩:=hrel;go_wp2_with fail;go_ret2
   exact⟨rfl,dG.out.below⟩
theorem ZlO(h:Bytes w a n cap l)(hs:∀x∈l,x<256)(hn:n<=1000000)(es:List Ev)(iz:∀e∈es,e.Ok)(hlen:es.length<=20)(eN:1<=es.length)(rest:List Nat)(hl:l=es.length::Zg es++rest):
  Calls prog 174 #[S_ a n cap] w λr w'=>∃v,r=R_ (.tuple #[v,B_ true])/\w'.ownsRow w.heap.size 89 12 v es.length (evCells es)/\L_ w w':=by
 have fm:=h.len;have qi:1<=n:=by
  rw[←fm,hl];simp
 obtain⟨b,off,rfl,hb,hc⟩:=h.pos ZO;have c0:=hc 0 ZO;rw[show l.getD 0 0=es.length by rw[hl];rfl,Nat.add_zero]at c0;have eG:=h.rest (k:=1) qi;rw[show l.drop 1=Zg (es.drop 0)++rest by rw[hl];rfl]at eG;have gG:=h.1;obtain⟨i0,hi,dd,cV,dc⟩:=info_parts ZbV;have HO:Hid (w.ownsRow w.heap.size 89 12 (S_ none 0 0) (es.take 0).length (evCells (es.take 0))):=ZH (⟨rfl,.inl ⟨rfl,rfl⟩⟩);have cY:∀x∈Zg es++rest,x<256:=λx hx=>hs x (by rw[hl];exact List.mem_cons_of_mem _ hx)
 obtain⟨HB,Le,gA,HK⟩:=ZH4 eG iz cY (ZKr w);have V2:(1:Int)<=(n:Int):=ZO;have B8:(1:Int)<=(cap:Int):=ZO;have Gx:¬cap=1:=by
  have h1:1<=(Zg es).length:=by
   rcases es with _|⟨e,es⟩
   ·simp at eN
   ·show 1<=(evBytes e++Zg es).length
    unfold evBytes;simp only[ZI,List.length_cons];omega
  have h2:l.length=1+(Zg es).length+rest.length:=by rw[hl];simp;omega
  omega
 have gi:((n:Int)==0)=false:=ZP;have Wf:IntKind.i64.wrap (es.length:Int)=(es.length:Int):=IntWalk.i64_in _ ZO;clear h hs hl eG iz hc cY;go_enter func174,ntmps174;go_wp2_with fail
 all_goals
  go_loopw [0,4,19] (λv0 v4 i wr=>∃(q:Nat) (A:Option Addr) (n' C':Nat),q<=es.length/\i=I_ J_ q/\v0=S_ A n' C'/\n'<=1000000/\Hid (Bytes w A n' C' (Zg (es.drop q)++rest))/\Hid (wr.ownsRow w.heap.size 89 12 v4 (es.take q).length (evCells (es.take q)))/\Hid (K_ w wr)) (λ_ _ i _=>es.length-(intOf i).toNat)
  case atStart=>exact⟨0,_,_,_,ZO,rfl,rfl,ZO,by have h:=HB.out;rw[ZPn Gx]at h;exact ZH h,HO,HK⟩
  case round =>
   obtain⟨q,A,n',C',hq,rfl,rfl,D5,tA,HOr,dG⟩:=hrel;by_cases du:q<es.length
   ·obtain⟨e,he⟩:∃e,es[q]? = some e:=⟨_,ZX du⟩;have ep:=Le.out e (ZY he);have l5:es.drop q=e::es.drop (q+1):=by
     rw[List.drop_eq_getElem_cons du];congr 1;rw[ZX du]at he;injection he
    have ev:Zg (es.drop q)++rest=evBytes e++(Zg (es.drop (q+1))++rest):=by
     rw[l5];show evBytes e++Zg (es.drop (q+1))++rest=_
     rw[List.append_assoc]
    have pN:=tA.out.len;have i6:(evBytes e).length<=n':=by
     rw[←pN,ev,ZI];omega
    have eN:1<=(evBytes e).length:=by
     unfold evBytes;simp only[ZI,List.length_cons];omega
    have vG:∀x∈Zg (es.drop q)++rest,x<256:=λx hx=>by
     rw[List.mem_append]at hx;rcases hx with hx|hx
     ·refine gA.out x (List.mem_append_left _ ?_);have e1:Zg es=Zg (es.take q)++Zg (es.drop q):=by
       unfold Zg;rw[←List.flatMap_append,List.take_append_drop]
      rw[e1];exact List.mem_append_right _ hx
     ·exact gA.out x (List.mem_append_right _ hx)
    have jq:=ZH (ZjM (tA.out.kept dG.out.below (ZL _)) vG D5 e ep (Zg (es.drop (q+1))++rest) ev);obtain⟨bb,oo,rfl,N3,_⟩:=tA.out.pos ZO;have dl:=tA.out.rest i6;rw[ev,List.drop_left]at dl;have Vq:=tA.out.1;obtain⟨av,cv,rfl,_⟩:=EvSl.ae HOr.out;obtain⟨fy,gI⟩:=ZH2 (Zan he) dl;clear dl ev l5 he ep vG pN;obtain⟨M,hM⟩:∃M,M=(es.take q).length:=⟨_,rfl⟩;have uB:M<=20:=by rw[hM,ZV];omega
    rw[←hM]at HOr ⊢;have HM:=ZH hM;clear hM;obtain⟨k,hk⟩:∃k,k=(evBytes e).length:=⟨_,rfl⟩;rw[←hk]at jq gI i6 eN;clear hk;have kn:(k:Int)<=(n':Int):=ZO;have zM:(k:Int)<=(C':Int):=ZO;have cR:(0:Int)<=(k:Int):=ZO;go_wp2_with fail;refine jq.out.mono ?_;rintro _ w3 ⟨rfl,cG⟩;have zr:=(Ze HOr.out cG).alloc (C_ (evArr e) 89);have lM:=(dG.out.step cG).alloc (C_ (evArr e) 89);have hx:=ZBn w3 89 (evArr e);obtain⟨x0,x1,x2,x3,x4,x5,x6,x7,x8,x9,fh,fi⟩:=hx.ag;have dO:=ZH (zr.alloc (C_ (evArr e) 89));have nN:=lM.alloc (C_ (evArr e) 89);have pK:=nN.le;have dw:=ZH nN;clear zr lM nN hx cG
    go_wp2_with (first
     |(at_builtin
       refine Zc _ rfl (.tmp 29) (.tmp 31) _ rfl w.heap.size 89 i0 _ 12 112 underlying128 hi dd cV dc rfl ZO (S_ av M cv) M (evCells (es.take q)) rfl dO.out (w3.heap.size+1+1) (some ⟨w3.heap.size+1,0,none⟩) 1 1 (evArr e).toList rfl (Zej _ _ _) (ZaT e) ZF ZO pK ?_;intro v7 w7 cF db _;have it:w7.ownsRow w.heap.size 89 12 v7 (es.take (q+1)).length (evCells (es.take (q+1))):=by
        rw[fy.out];have h:=cF;rw[HM.out]at h;exact RowE.snoc h
       have fx:Hid (K_ w w7):=ZH (⟨dw.out.below.grown db dw.out.le (λg hg=>(Zb dO.out hg).1),ZT dw.out.le db.size⟩);have iG:=ZH it
       clear cF it db))
    go_roundw
    case rel=>exact⟨q+1,_,_,_,ZO,ZN,rfl,ZO,gI,iG,fx⟩
    case measure=>simp[intOf];omega
   ·obtain rfl:q=es.length:=ZO;rw[List.take_length]at HOr;obtain⟨av,cv,rfl,_⟩:=EvSl.ae HOr.out;go_wp2_with fail;go_ret2
    exact⟨_,rfl,HOr.out,dG.out.below⟩
theorem ZhT(h:Bytes w a n cap l)(hs:∀x∈l,x<256)(hn:n<=1000000)(es:List Ev)(iz:∀e∈es,e.Ok)(hlen:es.length<=20)(rest:List Nat)(hl:l=es.length::Zg es++rest):
  Calls prog 174 #[S_ a n cap] w λr w'=>∃v,r=R_ (.tuple #[v,B_ true])/\w'.ownsRow w.heap.size 89 12 v es.length (evCells es)/\L_ w w':=by
 rcases Nat.eq_zero_or_pos es.length with h0|h1
 ·have he:es=[]:=List.eq_nil_of_length_eq_zero h0;subst he;refine(ZlN h rest (by rw[hl];rfl)).mono ?_;rintro _ w' ⟨rfl,hb⟩;exact⟨_,rfl,⟨rfl,.inl ⟨rfl,rfl⟩⟩,hb⟩
 ·exact ZlO h hs hn es iz hlen h1 rest hl
end Go.Proofs.YtjkfognelhiepaaGreat
