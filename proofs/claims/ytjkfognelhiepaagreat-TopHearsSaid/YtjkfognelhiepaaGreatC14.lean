import Derived.Test.YtjkfognelhiepaaGreatC13
namespace Go.Proofs.YtjkfognelhiepaaGreat
open Go.RowKit _root_.Go.Proofs.Tryz
set_option maxRecDepth 100000
set_option maxHeartbeats 8000000
theorem ZqT{f:Frm}(h:RecOk f)(dF:f.kind=1){a:Option Addr}{n cap:Nat}{w:World}(hs:EvSl w a n cap f.events):Calls prog 115 #[Z8 f (.slice a n cap)] w λ r w'=>∃ v,r = .returned (.tuple #[v,.int .i64 0])/\w'.ownsRow w.heap.size 5 1 v (recBytes f).length (cells (recBytes f))/\Below w.heap.size w w':=by
 have cI:=ZaF h;have cQ:=Za6 h;have hlen:=h.len;have fw:=hs.2.2.1;have hr:=h.r;have dJ:=h.upto;have eb:=h.clock;obtain⟨kind,r,upto,clock,events⟩:=f;simp only[] at dF hlen fw hr dJ hs eb;subst dF;have H:=ZH h;clear h;have dW:clock=ZCz:=H.out.clock0 ZM;have cX:upto=0:=H.out.upto0 ZM ZM;subst dW cX;obtain⟨LL,fM⟩:∃ LL,LL=Zz ⟨1,r,0,ZCz,events⟩:=⟨_,rfl⟩;rw[←fM] at cI cQ;have cA:=(ZKr w).alloc (.cells (Za ⟨1,r,0,ZCz,events⟩ (.slice a n cap)) 150);have cD:=ZBn w 150 (Za ⟨1,r,0,ZCz,events⟩ (.slice a n cap));have fx:=hs.below cA.below;have dl:IntKind.u8.wrap (r:Int)=(r:Int):=by rw[IntKind.wrap_u8];omega
 obtain⟨i0,hi,cM,cG,cK⟩:=info_parts ZaA;obtain⟨c0,c1,c2,c3,c4,c5,c6,c7,c8⟩:=cD.nine;have ce:=cD.lt;obtain⟨df,di,ei,md,gx,gv⟩:=ZH6 cA cD fx eb cI fM;clear cA cD fx hs eb cI fM;go_enter func115,ntmps115;go_wp2_with fail;refine(Ze1 H.out ei.out).mono ?_;rintro _ w1 ⟨rfl,bS⟩;have cE:=ZH (df.out.step bS);have cW:=di.out.ob bS;have dV:=ZH (ei.out.below bS);clear c0 c1 c2 c3 c4 c5 c6 c7 c8 ce;obtain⟨c0,c1,c2,c3,c4,c5,c6,c7,c8⟩:=cW.nine;have ce:=cW.lt;have cL:=ZH cW;clear cW bS df di ei;go_wp2_with fail;refine(ZaJ 1 ZO ZO _).mono ?_;rintro _ w2 ⟨rfl,bW⟩;rw[show upK 1=false from rfl,show evK 1=true from rfl,show clK 1=false from rfl];have cr:=ZH (cE.out.step bW);have dd:=cL.out.ob bW;have eP:=ZH (dV.out.below bW);clear c0 c1 c2 c3 c4 c5 c6 c7 c8 ce;obtain⟨c0,c1,c2,c3,c4,c5,c6,c7,c8⟩:=dd.nine;have ce:=dd.lt;obtain⟨jH,gU,cH⟩:=ZH3 (ZcL w2 1 r) ((ZKr w2).alloc (.cells #[.int .u8 (1:Nat),.int .u8 (r:Int)] 5)) dd;clear dd bW cE cL dV;go_wp2_with fail;refine(Za0 n _ ZO).mono ?_;rintro _ wn ⟨vn,rfl,nw,gy⟩;obtain⟨an,An,rfl,oM⟩:=Bytes.ab nw;obtain⟨sO,kY,mV⟩:=ZH3 (Ze jH.out gy) (gU.out.step gy) oM;have Be:=Z3 2 n ZO;have pX:=kY.out.le;clear nw oM gy c0 c1 c2 c3 c4 c5 c6 c7 c8;have jd:=cH.out.ob kY.out.below;obtain⟨c0,c1,c2,c3,c4,c5,c6,c7,c8⟩:=jd.nine;have tL:=jd.lt;clear jd
 go_wp2_with (first
  |(at_builtin
    refine Zc _ rfl (.tmp 54) (.tmp 59) _ rfl w2.heap.size 5 i0 _ 1 1 underlying106 hi cM cG cK rfl ZO (.slice (some ⟨w2.heap.size,0,none⟩) 2 2) 2 (cells [1,r]) rfl sO.out wn.heap.size an (Zd n).length An (cells (Zd n)) rfl mV.out.reads (Z2 _) ZF ZO pX ?_;intro MV BK dN jg _;obtain⟨Ln,mZ⟩:∃ Ln,Ln=[1,r]++Zd n:=⟨_,rfl⟩;have tj:2+(Zd n).length=Ln.length:=by rw[mZ,ZI];try rfl
    rw[←Zq,←mZ,tj] at dN;have la:Hid (Kept w2.heap.size w2 BK):=ZH ⟨kY.out.below.grown jg kY.out.le (λ g hg=>(Zb sO.out hg).1),ZT kY.out.le jg.size⟩;obtain⟨Kx,KF,rfl,_⟩:=Bytes.ab dN;have A2:Ln.length<=20:=ZO;obtain⟨po,zE⟩:=ZH2 dN mZ;clear dN mZ tj jg c0 c1 c2 c3 c4 c5 c6 c7 c8;have fN:=cH.out.ob la.out.below;obtain⟨c0,c1,c2,c3,c4,c5,c6,c7,c8⟩:=fN.nine;have pT:=fN.lt
    clear fN))
 clear c0 c1 c2 c3 c4 c5 c6 c7 c8;go_loopw [8,13,14,64] (λ v _ _ i wr=>∃ q:Nat,q<=n/\i = .int .i64 q/\Hid (wr.ownsRow w2.heap.size 5 1 v (Ln++Zg (events.take q)).length (cells (Ln++Zg (events.take q))))/\Hid (Kept w2.heap.size w2 wr)) (λ _ _ _ i _=>n-(intOf i).toNat)
 case atStart=>exact⟨0,ZO,rfl,ZH (by simpa [Zg] using po.out),la⟩
 case round =>
  obtain⟨q,hq,rfl,HR,db⟩:=hrel;obtain⟨av,cv,rfl,_⟩:=Bytes.ab HR.out;have fC:(Zg (events.take q)).length<=60*1000:=by
   have h1:=ZbC (events.take q) (λ e he=>H.out.events e (List.mem_of_mem_take he));have h2:(events.take q).length<=1000:=by rw[ZV];omega
   omega
  obtain⟨M,hM⟩:∃ M,M=(Ln++Zg (events.take q)).length:=⟨_,rfl⟩;have ti:M<=70000:=by rw[hM,ZI];omega
  by_cases dy:q<n
  ·rw[←hM] at HR ⊢;have HM:=ZH hM;clear hM fC;obtain⟨e,he⟩:∃ e,events[q]? = some e:=⟨_,ZX (by rw[fw];exact dy)⟩;have dM:=ZH (H.out.events e (ZY he));have ig:=eP.out.below db.out.below;obtain⟨bk,off,rfl,cQ,e0,e1,e2,e3,e4,e5,e6,e7,e8,e9,iJ,ja⟩:=ig.at_ he;have hx:=ZBn wr 89 (evArr e);obtain⟨x0,x1,x2,x3,x4,x5,x6,x7,x8,x9,eE,eG⟩:=hx.ae;obtain⟨fq,sP,sC⟩:=ZH3 (Zcj he) (HR.out.alloc (.cells (evArr e) 89)) (db.out.alloc (.cells (evArr e) 89));have tD:=Zcz dM.out;clear ig he hx;go_wp2_with fail;refine(ZdN e _ dM.out).mono ?_;rintro _ w3 ⟨v3,rfl,ew,bZ⟩;obtain⟨a3,mX,rfl,gi⟩:=Bytes.ab ew;have ep:=ZH (Ze sP.out bZ);have cY:=sC.out.step bZ;have gR:=cY.le;obtain⟨cC,gw⟩:=ZH2 cY gi;clear ew gi cY bZ e0 e1 e2 e3 e4 e5 e6 e7 e8 e9 iJ ja x0 x1 x2 x3 x4 x5 x6 x7 x8 x9 eE eG
   go_wp2_with (first
    |(at_builtin
      refine Zc _ rfl (.tmp 75) (.tmp 76) _ rfl w2.heap.size 5 i0 _ 1 1 underlying106 hi cM cG cK rfl ZO (.slice av M cv) M (cells (Ln++Zg (events.take q))) rfl ep.out w3.heap.size a3 (evBytes e).length mX (cells (evBytes e)) rfl gw.out.reads (Z2 _) ZF ZO gR ?_;intro v4 w4 cd dn _;rw[←Zq,HM.out,←ZI,List.append_assoc,←fq.out] at cd;have cZ:Hid (Kept w2.heap.size w2 w4):=ZH (⟨cC.out.below.grown dn cC.out.le (λ g hg=>(Zb ep.out hg).1),ZT cC.out.le dn.size⟩);have dt:=ZH cd
      clear cd dn))
   go_roundw
   case rel=>exact⟨q+1,ZO,ZN,dt,cZ⟩
   case measure=>simp[intOf];omega
  ·obtain rfl:q=n:=ZO;rw[ZU ZO,show Ln++Zg events=LL by
    rw[gv.out,zE.out];simp[Zz,upK,clK,evK,fw]] at HR ⊢
   have HO:=HR;have HK:=db;clear hM fC;go_wp2_with fail;obtain⟨af,cf,tk,iN⟩:=Bytes.ab HO.out;injection tk with lq tm lr;subst lq lr;refine(Zcg iN gx.out ZO).mono ?_;rintro _ ws ⟨vs,rfl,iQ,jr⟩;obtain⟨oW,cs,rfl,gj⟩:=Bytes.ab iQ;obtain⟨kZ,ij⟩:=ZH2 (HK.out.step jr) gj;obtain⟨SL,gO⟩:∃ SL,SL=Zau LL:=⟨_,rfl⟩;have t7:SL.length<=60104:=by rw[gO,ZbD];omega
   rw[←gO] at ij ⊢;have iZ:=ZH gO;clear iQ gj jr iN gO;go_wp2_with fail;refine(Za0 SL.length ws ZO).mono ?_;rintro _ wp ⟨vp,rfl,gu,eT⟩;obtain⟨ap,cp,rfl,_⟩:=Bytes.ab gu;obtain⟨iY,gk,gX⟩:=ZH3 gu (kZ.out.step eT) (ij.out.kept eT (ZL _));have tV:=Z3 2 SL.length ZO;have lU:=eT.size;clear gu eT;go_wp2_with (at_builtin;refine Zc _ rfl (.tmp 84) (.tmp 85) _ rfl ws.heap.size 5 i0 _ 1 1 underlying106 hi cM cG cK rfl ZO (.slice ap (Zd SL.length).length cp) (Zd SL.length).length (cells (Zd SL.length)) rfl iY.out wp.heap.size oW SL.length cs (cells SL) rfl gX.out.reads (Z2 _) ZF ZO lU ?_;intro v7 w7 bX cN _)
   rw[←Zq] at bX;have ik:Kept w2.heap.size w2 w7:=⟨gk.out.below.grown cN gk.out.le (λ g hg=>ZT kZ.out.le (Zb iY.out hg).1),ZT gk.out.le cN.size⟩;go_ret2
   refine⟨v7,rfl,?_,(cr.out.trans ik cr.out.le).below⟩;have kI:recBytes ⟨1,r,0,ZCz,events⟩=Zd SL.length++SL:=by
    unfold recBytes;rw[←gv.out,←iZ.out]
   rw[kI,ZI];exact Zi bX (ZT cr.out.le kZ.out.le)
theorem ZqU{f:Frm}(h:RecOk f)(dF:f.kind=2){a:Option Addr}{n cap:Nat}{w:World}(hs:EvSl w a n cap f.events):Calls prog 115 #[Z8 f (.slice a n cap)] w λ r w'=>∃ v,r = .returned (.tuple #[v,.int .i64 0])/\w'.ownsRow w.heap.size 5 1 v (recBytes f).length (cells (recBytes f))/\Below w.heap.size w w':=by
 have cI:=ZaF h;have cQ:=Za6 h;have hlen:=h.len;have fw:=hs.2.2.1;have hr:=h.r;have dJ:=h.upto;have eb:=h.clock;obtain⟨kind,r,upto,clock,events⟩:=f;simp only[] at dF hlen fw hr dJ hs eb;subst dF;have H:=ZH h;clear h;have dW:clock=ZCz:=H.out.clock0 ZM;have cX:upto=0:=H.out.upto0 ZM ZM;subst dW cX;obtain⟨LL,fM⟩:∃ LL,LL=Zz ⟨2,r,0,ZCz,events⟩:=⟨_,rfl⟩;rw[←fM] at cI cQ;have cA:=(ZKr w).alloc (.cells (Za ⟨2,r,0,ZCz,events⟩ (.slice a n cap)) 150);have cD:=ZBn w 150 (Za ⟨2,r,0,ZCz,events⟩ (.slice a n cap));have fx:=hs.below cA.below;have dl:IntKind.u8.wrap (r:Int)=(r:Int):=by rw[IntKind.wrap_u8];omega
 obtain⟨i0,hi,cM,cG,cK⟩:=info_parts ZaA;obtain⟨c0,c1,c2,c3,c4,c5,c6,c7,c8⟩:=cD.nine;have ce:=cD.lt;obtain⟨df,di,ei,md,gx,gv⟩:=ZH6 cA cD fx eb cI fM;clear cA cD fx hs eb cI fM;go_enter func115,ntmps115;go_wp2_with fail;refine(Ze1 H.out ei.out).mono ?_;rintro _ w1 ⟨rfl,bS⟩;have cE:=ZH (df.out.step bS);have cW:=di.out.ob bS;have dV:=ZH (ei.out.below bS);clear c0 c1 c2 c3 c4 c5 c6 c7 c8 ce;obtain⟨c0,c1,c2,c3,c4,c5,c6,c7,c8⟩:=cW.nine;have ce:=cW.lt;have cL:=ZH cW;clear cW bS df di ei;go_wp2_with fail;refine(ZaJ 2 ZO ZO _).mono ?_;rintro _ w2 ⟨rfl,bW⟩;rw[show upK 2=false from rfl,show evK 2=true from rfl,show clK 2=false from rfl];have cr:=ZH (cE.out.step bW);have dd:=cL.out.ob bW;have eP:=ZH (dV.out.below bW);clear c0 c1 c2 c3 c4 c5 c6 c7 c8 ce;obtain⟨c0,c1,c2,c3,c4,c5,c6,c7,c8⟩:=dd.nine;have ce:=dd.lt;obtain⟨jH,gU,cH⟩:=ZH3 (ZcL w2 2 r) ((ZKr w2).alloc (.cells #[.int .u8 (2:Nat),.int .u8 (r:Int)] 5)) dd;clear dd bW cE cL dV;go_wp2_with fail;refine(Za0 n _ ZO).mono ?_;rintro _ wn ⟨vn,rfl,nw,gy⟩;obtain⟨an,An,rfl,oM⟩:=Bytes.ab nw;obtain⟨sO,kY,mV⟩:=ZH3 (Ze jH.out gy) (gU.out.step gy) oM;have Be:=Z3 2 n ZO;have pX:=kY.out.le;clear nw oM gy c0 c1 c2 c3 c4 c5 c6 c7 c8;have jd:=cH.out.ob kY.out.below;obtain⟨c0,c1,c2,c3,c4,c5,c6,c7,c8⟩:=jd.nine;have tL:=jd.lt;clear jd
 go_wp2_with (first
  |(at_builtin
    refine Zc _ rfl (.tmp 54) (.tmp 59) _ rfl w2.heap.size 5 i0 _ 1 1 underlying106 hi cM cG cK rfl ZO (.slice (some ⟨w2.heap.size,0,none⟩) 2 2) 2 (cells [2,r]) rfl sO.out wn.heap.size an (Zd n).length An (cells (Zd n)) rfl mV.out.reads (Z2 _) ZF ZO pX ?_;intro MV BK dN jg _;obtain⟨Ln,mZ⟩:∃ Ln,Ln=[2,r]++Zd n:=⟨_,rfl⟩;have tj:2+(Zd n).length=Ln.length:=by rw[mZ,ZI];try rfl
    rw[←Zq,←mZ,tj] at dN;have la:Hid (Kept w2.heap.size w2 BK):=ZH ⟨kY.out.below.grown jg kY.out.le (λ g hg=>(Zb sO.out hg).1),ZT kY.out.le jg.size⟩;obtain⟨Kx,KF,rfl,_⟩:=Bytes.ab dN;have A2:Ln.length<=20:=ZO;obtain⟨po,zE⟩:=ZH2 dN mZ;clear dN mZ tj jg c0 c1 c2 c3 c4 c5 c6 c7 c8;have fN:=cH.out.ob la.out.below;obtain⟨c0,c1,c2,c3,c4,c5,c6,c7,c8⟩:=fN.nine;have pT:=fN.lt
    clear fN))
 clear c0 c1 c2 c3 c4 c5 c6 c7 c8;go_loopw [8,13,14,64] (λ v _ _ i wr=>∃ q:Nat,q<=n/\i = .int .i64 q/\Hid (wr.ownsRow w2.heap.size 5 1 v (Ln++Zg (events.take q)).length (cells (Ln++Zg (events.take q))))/\Hid (Kept w2.heap.size w2 wr)) (λ _ _ _ i _=>n-(intOf i).toNat)
 case atStart=>exact⟨0,ZO,rfl,ZH (by simpa [Zg] using po.out),la⟩
 case round =>
  obtain⟨q,hq,rfl,HR,db⟩:=hrel;obtain⟨av,cv,rfl,_⟩:=Bytes.ab HR.out;have fC:(Zg (events.take q)).length<=60*1000:=by
   have h1:=ZbC (events.take q) (λ e he=>H.out.events e (List.mem_of_mem_take he));have h2:(events.take q).length<=1000:=by rw[ZV];omega
   omega
  obtain⟨M,hM⟩:∃ M,M=(Ln++Zg (events.take q)).length:=⟨_,rfl⟩;have ti:M<=70000:=by rw[hM,ZI];omega
  by_cases dy:q<n
  ·rw[←hM] at HR ⊢;have HM:=ZH hM;clear hM fC;obtain⟨e,he⟩:∃ e,events[q]? = some e:=⟨_,ZX (by rw[fw];exact dy)⟩;have dM:=ZH (H.out.events e (ZY he));have ig:=eP.out.below db.out.below;obtain⟨bk,off,rfl,cQ,e0,e1,e2,e3,e4,e5,e6,e7,e8,e9,iJ,ja⟩:=ig.at_ he;have hx:=ZBn wr 89 (evArr e);obtain⟨x0,x1,x2,x3,x4,x5,x6,x7,x8,x9,eE,eG⟩:=hx.ae;obtain⟨fq,sP,sC⟩:=ZH3 (Zcj he) (HR.out.alloc (.cells (evArr e) 89)) (db.out.alloc (.cells (evArr e) 89));have tD:=Zcz dM.out;clear ig he hx;go_wp2_with fail;refine(ZdN e _ dM.out).mono ?_;rintro _ w3 ⟨v3,rfl,ew,bZ⟩;obtain⟨a3,mX,rfl,gi⟩:=Bytes.ab ew;have ep:=ZH (Ze sP.out bZ);have cY:=sC.out.step bZ;have gR:=cY.le;obtain⟨cC,gw⟩:=ZH2 cY gi;clear ew gi cY bZ e0 e1 e2 e3 e4 e5 e6 e7 e8 e9 iJ ja x0 x1 x2 x3 x4 x5 x6 x7 x8 x9 eE eG
   go_wp2_with (first
    |(at_builtin
      refine Zc _ rfl (.tmp 75) (.tmp 76) _ rfl w2.heap.size 5 i0 _ 1 1 underlying106 hi cM cG cK rfl ZO (.slice av M cv) M (cells (Ln++Zg (events.take q))) rfl ep.out w3.heap.size a3 (evBytes e).length mX (cells (evBytes e)) rfl gw.out.reads (Z2 _) ZF ZO gR ?_;intro v4 w4 cd dn _;rw[←Zq,HM.out,←ZI,List.append_assoc,←fq.out] at cd;have cZ:Hid (Kept w2.heap.size w2 w4):=ZH (⟨cC.out.below.grown dn cC.out.le (λ g hg=>(Zb ep.out hg).1),ZT cC.out.le dn.size⟩);have dt:=ZH cd
      clear cd dn))
   go_roundw
   case rel=>exact⟨q+1,ZO,ZN,dt,cZ⟩
   case measure=>simp[intOf];omega
  ·obtain rfl:q=n:=ZO;rw[ZU ZO,show Ln++Zg events=LL by
    rw[gv.out,zE.out];simp[Zz,upK,clK,evK,fw]] at HR ⊢
   have HO:=HR;have HK:=db;clear hM fC;go_wp2_with fail;obtain⟨af,cf,tk,iN⟩:=Bytes.ab HO.out;injection tk with lq tm lr;subst lq lr;refine(Zcg iN gx.out ZO).mono ?_;rintro _ ws ⟨vs,rfl,iQ,jr⟩;obtain⟨oW,cs,rfl,gj⟩:=Bytes.ab iQ;obtain⟨kZ,ij⟩:=ZH2 (HK.out.step jr) gj;obtain⟨SL,gO⟩:∃ SL,SL=Zau LL:=⟨_,rfl⟩;have t7:SL.length<=60104:=by rw[gO,ZbD];omega
   rw[←gO] at ij ⊢;have iZ:=ZH gO;clear iQ gj jr iN gO;go_wp2_with fail;refine(Za0 SL.length ws ZO).mono ?_;rintro _ wp ⟨vp,rfl,gu,eT⟩;obtain⟨ap,cp,rfl,_⟩:=Bytes.ab gu;obtain⟨iY,gk,gX⟩:=ZH3 gu (kZ.out.step eT) (ij.out.kept eT (ZL _));have tV:=Z3 2 SL.length ZO;have lU:=eT.size;clear gu eT;go_wp2_with (at_builtin;refine Zc _ rfl (.tmp 84) (.tmp 85) _ rfl ws.heap.size 5 i0 _ 1 1 underlying106 hi cM cG cK rfl ZO (.slice ap (Zd SL.length).length cp) (Zd SL.length).length (cells (Zd SL.length)) rfl iY.out wp.heap.size oW SL.length cs (cells SL) rfl gX.out.reads (Z2 _) ZF ZO lU ?_;intro v7 w7 bX cN _)
   rw[←Zq] at bX;have ik:Kept w2.heap.size w2 w7:=⟨gk.out.below.grown cN gk.out.le (λ g hg=>ZT kZ.out.le (Zb iY.out hg).1),ZT gk.out.le cN.size⟩;go_ret2
   refine⟨v7,rfl,?_,(cr.out.trans ik cr.out.le).below⟩;have kI:recBytes ⟨2,r,0,ZCz,events⟩=Zd SL.length++SL:=by
    unfold recBytes;rw[←gv.out,←iZ.out]
   rw[kI,ZI];exact Zi bX (ZT cr.out.le kZ.out.le)
theorem ZqV{f:Frm}(h:RecOk f)(dF:f.kind=3){a:Option Addr}{n cap:Nat}{w:World}(hs:EvSl w a n cap f.events):Calls prog 115 #[Z8 f (.slice a n cap)] w λ r w'=>∃ v,r = .returned (.tuple #[v,.int .i64 0])/\w'.ownsRow w.heap.size 5 1 v (recBytes f).length (cells (recBytes f))/\Below w.heap.size w w':=by
 have cI:=ZaF h;have cQ:=Za6 h;have hlen:=h.len;have fw:=hs.2.2.1;have hr:=h.r;have dJ:=h.upto;have eb:=h.clock;obtain⟨kind,r,upto,clock,events⟩:=f;simp only[] at dF hlen fw hr dJ hs eb;subst dF;have H:=ZH h;clear h;have dW:clock=ZCz:=H.out.clock0 ZM;have kd:events=[]:=H.out.events0 ZM;subst dW kd;obtain rfl:n=0:=fw.symm;obtain⟨LL,fM⟩:∃ LL,LL=Zz ⟨3,r,upto,ZCz,[]⟩:=⟨_,rfl⟩;rw[←fM] at cI cQ;have cA:=(ZKr w).alloc (.cells (Za ⟨3,r,upto,ZCz,[]⟩ (.slice a 0 cap)) 150);have cD:=ZBn w 150 (Za ⟨3,r,upto,ZCz,[]⟩ (.slice a 0 cap));have fx:=hs.below cA.below;have dl:IntKind.u8.wrap (r:Int)=(r:Int):=by rw[IntKind.wrap_u8];omega
 obtain⟨i0,hi,cM,cG,cK⟩:=info_parts ZaA;obtain⟨c0,c1,c2,c3,c4,c5,c6,c7,c8⟩:=cD.nine;have ce:=cD.lt;obtain⟨df,di,ei,md,gx,gv⟩:=ZH6 cA cD fx eb cI fM;clear cA cD fx hs eb cI fM;go_enter func115,ntmps115;go_wp2_with fail;refine(Ze1 H.out ei.out).mono ?_;rintro _ w1 ⟨rfl,bS⟩;have cE:=ZH (df.out.step bS);have cW:=di.out.ob bS;have dV:=ZH (ei.out.below bS);clear c0 c1 c2 c3 c4 c5 c6 c7 c8 ce;obtain⟨c0,c1,c2,c3,c4,c5,c6,c7,c8⟩:=cW.nine;have ce:=cW.lt;have cL:=ZH cW;clear cW bS df di ei;go_wp2_with fail;refine(ZaJ 3 ZO ZO _).mono ?_;rintro _ w2 ⟨rfl,bW⟩;rw[show upK 3=true from rfl,show evK 3=false from rfl,show clK 3=false from rfl];have cr:=ZH (cE.out.step bW);have dd:=cL.out.ob bW;have eP:=ZH (dV.out.below bW);clear c0 c1 c2 c3 c4 c5 c6 c7 c8 ce;obtain⟨c0,c1,c2,c3,c4,c5,c6,c7,c8⟩:=dd.nine;have ce:=dd.lt;obtain⟨jH,gU,cH⟩:=ZH3 (ZcL w2 3 r) ((ZKr w2).alloc (.cells #[.int .u8 (3:Nat),.int .u8 (r:Int)] 5)) dd;clear dd bW cE cL dV;go_wp2_with fail;refine(Za0 upto _ ZO).mono ?_;rintro _ wu ⟨vu,rfl,Bf,AA⟩;obtain⟨au,KE,rfl,uK⟩:=Bytes.ab Bf;obtain⟨Du,sB,J3⟩:=ZH3 (Ze jH.out AA) (gU.out.step AA) uK;have Md:=Z3 2 upto ZO;have Br:=sB.out.le;clear Bf uK AA c0 c1 c2 c3 c4 c5 c6 c7 c8;have pJ:=cH.out.ob sB.out.below;obtain⟨c0,c1,c2,c3,c4,c5,c6,c7,c8⟩:=pJ.nine;have Fh:=pJ.lt;clear pJ
 go_wp2_with (first
  |(at_builtin
    refine Zc _ rfl (.tmp 35) (.tmp 39) _ rfl w2.heap.size 5 i0 _ 1 1 underlying106 hi cM cG cK rfl ZO (.slice (some ⟨w2.heap.size,0,none⟩) 2 2) 2 (cells [3,r]) rfl Du.out wu.heap.size au (Zd upto).length KE (cells (Zd upto)) rfl J3.out.reads (Z2 _) ZF ZO Br ?_;intro Tr MX gQ pL _;obtain⟨Lu,vV⟩:∃ Lu,Lu=[3,r]++Zd upto:=⟨_,rfl⟩;have Ej:2+(Zd upto).length=Lu.length:=by rw[vV,ZI];try rfl
    rw[←Zq,←vV,Ej] at gQ;have sD:Hid (Kept w2.heap.size w2 MX):=ZH ⟨sB.out.below.grown pL sB.out.le (λ g hg=>(Zb Du.out hg).1),ZT sB.out.le pL.size⟩;obtain⟨NU,N0,rfl,_⟩:=Bytes.ab gQ;have LQ:Lu.length<=10:=ZO;obtain⟨vq,JF⟩:=ZH2 gQ vV;clear gQ vV Ej pL c0 c1 c2 c3 c4 c5 c6 c7 c8;have ly:=cH.out.ob sD.out.below;obtain⟨c0,c1,c2,c3,c4,c5,c6,c7,c8⟩:=ly.nine;have A8:=ly.lt
    clear ly))
 rw[show Lu=LL by rw[JF.out,gv.out];simp[Zz,upK,clK,evK]] at vq ⊢;clear c0 c1 c2 c3 c4 c5 c6 c7 c8;obtain⟨af,cf,tk,iN⟩:=Bytes.ab vq.out;injection tk with lq tm lr;subst lq lr;refine(Zcg iN gx.out ZO).mono ?_;rintro _ ws ⟨vs,rfl,iQ,jr⟩;obtain⟨oW,cs,rfl,gj⟩:=Bytes.ab iQ;obtain⟨kZ,ij⟩:=ZH2 (sD.out.step jr) gj;obtain⟨SL,gO⟩:∃ SL,SL=Zau LL:=⟨_,rfl⟩;have t7:SL.length<=60104:=by rw[gO,ZbD];omega
 rw[←gO] at ij ⊢;have iZ:=ZH gO;clear iQ gj jr iN gO;go_wp2_with fail;refine(Za0 SL.length ws ZO).mono ?_;rintro _ wp ⟨vp,rfl,gu,eT⟩;obtain⟨ap,cp,rfl,_⟩:=Bytes.ab gu;obtain⟨iY,gk,gX⟩:=ZH3 gu (kZ.out.step eT) (ij.out.kept eT (ZL _));have tV:=Z3 2 SL.length ZO;have lU:=eT.size;clear gu eT;go_wp2_with (at_builtin;refine Zc _ rfl (.tmp 84) (.tmp 85) _ rfl ws.heap.size 5 i0 _ 1 1 underlying106 hi cM cG cK rfl ZO (.slice ap (Zd SL.length).length cp) (Zd SL.length).length (cells (Zd SL.length)) rfl iY.out wp.heap.size oW SL.length cs (cells SL) rfl gX.out.reads (Z2 _) ZF ZO lU ?_;intro v7 w7 bX cN _)
 rw[←Zq] at bX;have ik:Kept w2.heap.size w2 w7:=⟨gk.out.below.grown cN gk.out.le (λ g hg=>ZT kZ.out.le (Zb iY.out hg).1),ZT gk.out.le cN.size⟩;go_ret2
 refine⟨v7,rfl,?_,(cr.out.trans ik cr.out.le).below⟩;have kI:recBytes ⟨3,r,upto,ZCz,[]⟩=Zd SL.length++SL:=by
  unfold recBytes;rw[←gv.out,←iZ.out]
 rw[kI,ZI];exact Zi bX (ZT cr.out.le kZ.out.le)
theorem ZqY{f:Frm}(h:RecOk f)(dF:f.kind=6){a:Option Addr}{n cap:Nat}{w:World}(hs:EvSl w a n cap f.events):Calls prog 115 #[Z8 f (.slice a n cap)] w λ r w'=>∃ v,r = .returned (.tuple #[v,.int .i64 0])/\w'.ownsRow w.heap.size 5 1 v (recBytes f).length (cells (recBytes f))/\Below w.heap.size w w':=by
 have cI:=ZaF h;have cQ:=Za6 h;have hlen:=h.len;have fw:=hs.2.2.1;have hr:=h.r;have dJ:=h.upto;have eb:=h.clock;obtain⟨kind,r,upto,clock,events⟩:=f;simp only[] at dF hlen fw hr dJ hs eb;subst dF;have H:=ZH h;clear h;have cX:upto=0:=H.out.upto0 ZM ZM;have kd:events=[]:=H.out.events0 ZM;subst cX kd;obtain rfl:n=0:=fw.symm;obtain⟨LL,fM⟩:∃ LL,LL=Zz ⟨6,r,0,clock,[]⟩:=⟨_,rfl⟩;rw[←fM] at cI cQ;have cA:=(ZKr w).alloc (.cells (Za ⟨6,r,0,clock,[]⟩ (.slice a 0 cap)) 150);have cD:=ZBn w 150 (Za ⟨6,r,0,clock,[]⟩ (.slice a 0 cap));have fx:=hs.below cA.below;have dl:IntKind.u8.wrap (r:Int)=(r:Int):=by rw[IntKind.wrap_u8];omega
 obtain⟨i0,hi,cM,cG,cK⟩:=info_parts ZaA;obtain⟨c0,c1,c2,c3,c4,c5,c6,c7,c8⟩:=cD.nine;have ce:=cD.lt;obtain⟨df,di,ei,md,gx,gv⟩:=ZH6 cA cD fx eb cI fM;clear cA cD fx hs eb cI fM;go_enter func115,ntmps115;go_wp2_with fail;refine(Ze1 H.out ei.out).mono ?_;rintro _ w1 ⟨rfl,bS⟩;have cE:=ZH (df.out.step bS);have cW:=di.out.ob bS;have dV:=ZH (ei.out.below bS);clear c0 c1 c2 c3 c4 c5 c6 c7 c8 ce;obtain⟨c0,c1,c2,c3,c4,c5,c6,c7,c8⟩:=cW.nine;have ce:=cW.lt;have cL:=ZH cW;clear cW bS df di ei;go_wp2_with fail;refine(ZaJ 6 ZO ZO _).mono ?_;rintro _ w2 ⟨rfl,bW⟩;rw[show upK 6=false from rfl,show evK 6=false from rfl,show clK 6=true from rfl];have cr:=ZH (cE.out.step bW);have dd:=cL.out.ob bW;have eP:=ZH (dV.out.below bW);clear c0 c1 c2 c3 c4 c5 c6 c7 c8 ce;obtain⟨c0,c1,c2,c3,c4,c5,c6,c7,c8⟩:=dd.nine;have ce:=dd.lt;obtain⟨jH,gU,cH⟩:=ZH3 (ZcL w2 6 r) ((ZKr w2).alloc (.cells #[.int .u8 (6:Nat),.int .u8 (r:Int)] 5)) dd;clear dd bW cE cL dV;go_wp2_with fail;clear c0 c1 c2 c3 c4 c5 c6 c7 c8 ce;go_loopw [8,10,44] (λ v _ i wr=>∃ k:Nat,k<=5/\i = .int .i64 k/\Hid (wr.ownsRow w2.heap.size 5 1 v ([6,r]++Zw clock k).length (cells ([6,r]++Zw clock k)))/\Hid (Kept w2.heap.size w2 wr)) (λ _ _ i _=>5-(intOf i).toNat)
 case atStart=>exact⟨0,ZO,rfl,ZH (by simpa [Zw] using jH.out),gU⟩
 case round =>
  obtain⟨k,hk,rfl,HR,db⟩:=hrel;obtain⟨av,cv,rfl,_⟩:=Bytes.ab HR.out;have eX:=ZdL md.out k;by_cases ef:k<5
  ·have jC:(k:Int)<5:=ZO;have jR:=λ w=>Zah clock k ef w
   have eb:=md.out k;obtain⟨M,hM⟩:∃ M,M=([6,r]++Zw clock k).length:=⟨_,rfl⟩;have ti:M<=100:=by rw[hM];simp;omega
   rw[←hM] at HR ⊢;have HM:=ZH hM;clear hM eX;go_wp2_with fail;refine(Za0 (clock.get k) wr ZO).mono ?_;rintro _ w3 ⟨v3,rfl,ew,bZ⟩;obtain⟨a3,mX,rfl,gi⟩:=Bytes.ab ew;have iT:=Ze HR.out bZ;have cY:=db.out.step bZ;have tU:=Z3 2 (clock.get k) ZO;have gR:=cY.le;obtain⟨ep,cC,gw⟩:=ZH3 iT cY gi;clear ew gi iT cY bZ
   go_wp2_with (first
    |(at_builtin
      refine Zc _ rfl (.tmp 47) (.tmp 50) _ rfl w2.heap.size 5 i0 _ 1 1 underlying106 hi cM cG cK rfl ZO (.slice av M cv) M (cells ([6,r]++Zw clock k)) rfl ep.out w3.heap.size a3 (Zd (clock.get k)).length mX (cells (Zd (clock.get k))) rfl gw.out.reads (Z2 _) ZF ZO gR ?_;intro v4 w4 cd dn _;rw[←Zq,HM.out,←ZI,List.append_assoc,show Zw clock k++Zd (clock.get k)=Zw clock (k+1) from rfl] at cd;have cZ:Hid (Kept w2.heap.size w2 w4):=ZH (⟨cC.out.below.grown dn cC.out.le (λ g hg=>(Zb ep.out hg).1),ZT cC.out.le dn.size⟩);have dt:=ZH cd
      clear cd dn))
   go_roundw
   case rel=>exact⟨k+1,ZO,ZN,dt,cZ⟩
   case measure=>simp[intOf];omega
  ·obtain rfl:k=5:=ZO;rw[show [6,r]++Zw clock 5=LL by rw[gv.out];simp[Zz,upK,clK,evK]] at HR ⊢;have HO:=HR;have HK:=db;go_wp2_with fail;obtain⟨af,cf,tk,iN⟩:=Bytes.ab HO.out;injection tk with lq tm lr;subst lq lr;refine(Zcg iN gx.out ZO).mono ?_;rintro _ ws ⟨vs,rfl,iQ,jr⟩;obtain⟨oW,cs,rfl,gj⟩:=Bytes.ab iQ;obtain⟨kZ,ij⟩:=ZH2 (HK.out.step jr) gj;obtain⟨SL,gO⟩:∃ SL,SL=Zau LL:=⟨_,rfl⟩;have t7:SL.length<=60104:=by rw[gO,ZbD];omega
   rw[←gO] at ij ⊢;have iZ:=ZH gO;clear iQ gj jr iN gO;go_wp2_with fail;refine(Za0 SL.length ws ZO).mono ?_;rintro _ wp ⟨vp,rfl,gu,eT⟩;obtain⟨ap,cp,rfl,_⟩:=Bytes.ab gu;obtain⟨iY,gk,gX⟩:=ZH3 gu (kZ.out.step eT) (ij.out.kept eT (ZL _));have tV:=Z3 2 SL.length ZO;have lU:=eT.size;clear gu eT;go_wp2_with (at_builtin;refine Zc _ rfl (.tmp 84) (.tmp 85) _ rfl ws.heap.size 5 i0 _ 1 1 underlying106 hi cM cG cK rfl ZO (.slice ap (Zd SL.length).length cp) (Zd SL.length).length (cells (Zd SL.length)) rfl iY.out wp.heap.size oW SL.length cs (cells SL) rfl gX.out.reads (Z2 _) ZF ZO lU ?_;intro v7 w7 bX cN _)
   rw[←Zq] at bX;have ik:Kept w2.heap.size w2 w7:=⟨gk.out.below.grown cN gk.out.le (λ g hg=>ZT kZ.out.le (Zb iY.out hg).1),ZT gk.out.le cN.size⟩;go_ret2
   refine⟨v7,rfl,?_,(cr.out.trans ik cr.out.le).below⟩;have kI:recBytes ⟨6,r,0,clock,[]⟩=Zd SL.length++SL:=by
    unfold recBytes;rw[←gv.out,←iZ.out]
   rw[kI,ZI];exact Zi bX (ZT cr.out.le kZ.out.le)
theorem ZjB{f:Frm}(h:RecOk f){a:Option Addr}{n cap:Nat}{w:World}(hs:EvSl w a n cap f.events):Calls prog 115 #[Z8 f (.slice a n cap)] w λ r w'=>∃ v,r = .returned (.tuple #[v,.int .i64 0])/\w'.ownsRow w.heap.size 5 1 v (recBytes f).length (cells (recBytes f))/\Below w.heap.size w w':=by
 have h1:=h.kind1;have h6:=h.kind6;rcases(by omega:f.kind=1∨f.kind=2∨f.kind=3∨f.kind=4∨f.kind=5∨f.kind=6) with hk | hk | hk | hk | hk | hk
 ·exact ZqT h hk hs
 ·exact ZqU h hk hs
 ·exact ZqV h hk hs
 ·exact ZqW h hk hs
 ·exact ZqX h hk hs
 ·exact ZqY h hk hs
theorem ZeS{w:World}{a:Option Addr}{n cap:Nat}{l:List Nat}(h:Bytes w a n cap l)(hs:∀ x∈l,x<256)(m:Nat)(hm:m<=1048576)(rest:List Nat)(hl:l=Zd m++rest):
  Calls prog 201 #[.slice a n cap] w λ r w'=>∃ A n' C',r = .returned (.tuple #[.int .i64 m,.slice A n' C',.bool true])/\(∀ w0,Bytes w0 a n cap l->Bytes w0 A n' C' rest)/\n'<=n/\Below w.heap.size w w':=by
 have hlen:=h.len;have hp:=Z4 m;have jB:(Zd m).length<=n:=by rw[←hlen,hl,ZI];omega
 have js:=ZcD h hs;have fT:=ZcE m rest ZO;rw[←hl] at fT;obtain⟨b,off,rfl,_,_⟩:=h.pos ZO;have kT:l.drop (Zd m).length=rest:=by rw[hl,List.drop_left]
 have cU:∀ w0,Bytes w0 (some ⟨b,off,none⟩) n cap l->Bytes w0 (if cap=(Zd m).length then some ⟨b,off,none⟩ else some ⟨b,off+(Zd m).length,none⟩) (n-(Zd m).length) (cap-(Zd m).length) rest:=λ w0 h0=>by
  have h1:=h0.rest jB;rw[kT] at h1;exact h1
 have fZ:=h.1;have PG:IntKind.i64.wrap (m:Int)=(m:Int):=IntWalk.i64_in _ ZO;have hd:¬ ((1048576:Int)<(m:Int)):=ZO;obtain⟨gE,ld,ga⟩:=ZH3 js fT cU;clear js fT h hs hl cU hlen kT;generalize (Zd m).length=k at *;have jC:(k:Int)<=(n:Int):=ZO;have yt:(k:Int)<=(cap:Int):=ZO;have cA:(0:Int)<=(k:Int):=ZO;go_enter func201,ntmps201;go_wp2_with fail;refine gE.out.mono ?_;rintro e w1 hP;obtain⟨rfl,rfl⟩:e = .returned (.tuple #[.int .u64 m,.int .i64 k,.int .i64 ((0:Nat):Int)])/\w=w1:=by
  have fR:=hP;unfold ZaQ at fR;rw[ld.out] at fR;exact fR
 clear hP;go_wp2_with fail;refine ZSi [(0,3),(1,3),(2,3),(3,3),(4,3),(5,3),(6,3),(7,3)] λ bR=>?_
 repeat((first | refine ZSa ?_ | refine ZSb ?_ | refine ZSc ?_);simp only[Act.put,ZA,ZB,ZC])
 refine ZSf ?_;go_wp2_with fail
 all_goals(try (have ru:cap=k:=by assumption);try subst ru)
 all_goals
  go_ret3
  refine⟨_,_,_,rfl,λ w0 h0=>?_,Nat.sub_le _ _,(ZW _ _).drew⟩;have h:=ga.out w0 h0;first
   |(rw[if_neg (by assumption)] at h;exact h)
   |(rw[if_pos rfl,Nat.sub_self] at h;exact h)
theorem Zgk{w:World}{a:Option Addr}{n cap:Nat}{l:List Nat}(h:Bytes w a n cap l)(hs:∀ x∈l,x<256)(hn:n<=1000000)(es:List Ev)(gP:∀ e∈es,e.Ok)(hlen:es.length<=1000)(rest:List Nat)(hl:l=Zd es.length++(Zg es++rest)):
  Calls prog 202 #[.slice a n cap] w λ r w'=>∃ v,r = .returned (.tuple #[v,.bool true])/\w'.ownsRow w.heap.size 89 12 v es.length (evCells es)/\Below w.heap.size w w':=by
 obtain⟨i0,hi,cM,cG,cK⟩:=info_parts Zbv;have TB:=ZeS h hs es.length ZO (Zg es++rest) hl;have cI:∀ x∈Zg es++rest,x<256:=λ x hx=>hs x (by rw[hl];exact List.mem_append_right _ hx)
 have rE:¬ ((4096:Int)<(es.length:Int)):=ZO;obtain⟨HH,mg,Je,gx⟩:=ZH4 h TB gP cI;clear TB h hs hl gP cI;go_enter func202,ntmps202;go_wp2_with fail;refine mg.out.mono ?_;rintro _ w1 ⟨A1,n1,C1,rfl,cW,qB,bS⟩;obtain⟨HB,HK⟩:=ZH2 (show Bytes w A1 n1 C1 (Zg (es.drop 0)++rest) from cW w HH.out) (Kept.start bS);have HO:Hid (w1.ownsRow w.heap.size 89 12 (.slice none 0 0) (es.take 0).length (evCells (es.take 0))):=ZH ⟨rfl,.inl ⟨rfl,rfl⟩⟩;have L5:n1<=1000000:=ZO;clear cW bS;go_wp2_with fail;go_loopw [0,6,8,9,23] (λ v0 v4 _ _ i wr=>∃ (q:Nat) (A:Option Addr) (n' C':Nat),q<=es.length/\i = .int .i64 q/\v0 = .slice A n' C'/\n'<=1000000/\Hid (Bytes w A n' C' (Zg (es.drop q)++rest))/\Hid (wr.ownsRow w.heap.size 89 12 v4 (es.take q).length (evCells (es.take q)))/\Hid (Kept w.heap.size w wr)) (λ _ _ _ _ i _=>es.length-(intOf i).toNat)
 case atStart=>exact⟨0,_,_,_,ZO,rfl,rfl,L5,HB,HO,HK⟩
 case round =>
  clear HB HO HK;obtain⟨q,A,n',C',hq,rfl,rfl,Ce,su,HOr,db⟩:=hrel;by_cases dy:q<es.length
  ·obtain⟨e,he⟩:∃ e,es[q]? = some e:=⟨_,ZX dy⟩;have dM:=Je.out e (ZY he);have kT:es.drop q=e::es.drop (q+1):=by
    rw[List.drop_eq_getElem_cons dy];congr 1;rw[ZX dy] at he;injection he
   have dO:Zg (es.drop q)++rest=evBytes e++(Zg (es.drop (q+1))++rest):=by
    rw[kT];show evBytes e++Zg (es.drop (q+1))++rest=_
    rw[List.append_assoc]
   have oH:=su.out.len;have jB:(evBytes e).length<=n':=by
    rw[←oH,dO,ZI];omega
   have eL:1<=(evBytes e).length:=by
    unfold evBytes;simp only[ZI,List.length_cons];omega
   have t8:∀ x∈Zg (es.drop q)++rest,x<256:=λ x hx=>by
    rw[List.mem_append] at hx;rcases hx with hx | hx
    ·refine gx.out x (List.mem_append_left _ ?_);have e1:Zg es=Zg (es.take q)++Zg (es.drop q):=by
      unfold Zg;rw[←List.flatMap_append,List.take_append_drop]
     rw[e1];exact List.mem_append_right _ hx
    ·exact gx.out x (List.mem_append_right _ hx)
   have js:=ZiJ (su.out.kept db.out.below (ZL _)) t8 Ce e dM (Zg (es.drop (q+1))++rest) dO;obtain⟨bb,oo,rfl,Lf,_⟩:=su.out.pos ZO;have cU:=su.out.rest jB;rw[dO,List.drop_left] at cU;have Sj:=su.out.1;obtain⟨av,cv,rfl,_⟩:=EvSl.ab HOr.out;obtain⟨eI,gE,ga⟩:=ZH3 (Zag he) js cU;clear js cU dO kT he dM t8 oH;obtain⟨M,hM⟩:∃ M,M=(es.take q).length:=⟨_,rfl⟩;have ti:M<=1000:=by rw[hM,ZV];omega
   rw[←hM] at HOr ⊢;have HM:=ZH hM;clear hM;obtain⟨k,hk⟩:∃ k,k=(evBytes e).length:=⟨_,rfl⟩;rw[←hk] at gE ga jB eL;clear hk;have jC:(k:Int)<=(n':Int):=ZO;have yt:(k:Int)<=(C':Int):=ZO;have cA:(0:Int)<=(k:Int):=ZO;go_wp2_with fail;refine gE.out.mono ?_;rintro _ w3 ⟨rfl,bZ⟩;have xY:=(Ze HOr.out bZ).alloc (.cells (evArr e) 89);have kE:=(db.out.step bZ).alloc (.cells (evArr e) 89);have hx:=ZBn w3 89 (evArr e);obtain⟨W4,m8⟩:∃ W4,W4=w3.alloc (.cells (evArr e) 89):=⟨_,rfl⟩;have Gl:Blk W4 w3.heap.size 89 (evArr e):=by rw[m8];exact hx
   have Oz:W4.ownsRow w.heap.size 89 12 (.slice av M cv) M (evCells (es.take q)):=by rw[m8];exact xY
   have mI:Kept w.heap.size w W4:=by rw[m8];exact kE
   have gp:=Gl.lt;obtain⟨x0,x1,x2,x3,x4,x5,x6,x7,x8,x9,eE,eG⟩:=Gl.ae;obtain⟨dt,cZ,qj⟩:=ZH3 Oz mI m8;clear xY kE Oz mI hx bZ Gl m8;go_wp2_with fail;rw[←qj.out];have vr:=ZH (ZbN W4.drew e);have qY:Hid ((W4.drew.alloc (.cells (evArr e) 89)).ownsRow w.heap.size 89 12 (.slice av M cv) M (evCells (es.take q))):=ZH (dt.out.drew.alloc _);have rZ:Kept w.heap.size w (W4.drew.alloc (.cells (evArr e) 89)):=cZ.out.drew.alloc _;have fi:=ZH rZ;have LT:=rZ.le;clear rZ;refine ZSi [(0,3),(1,0),(4,3),(5,3),(6,3),(2,1),(3,2),(7,3),(8,3)] λ bR=>?_
   repeat((first | refine ZSa ?_ | refine ZSb ?_ | refine ZSc ?_);simp only[Act.put,ZA,ZB,ZC])
   refine ZSd λ K hK=>?_
   go_simp;refine hK.out (λ w'=>Kept W4.heap.size W4 w') _ _ (λ _ h=>h) (bR.alloc _) (λ bT=>?_);clear hK K bR;repeat((first | refine ZSa ?_ | refine ZSb ?_ | refine ZSc ?_);simp only[Act.put,ZA,ZB,ZC])
   refine ZSe λ K hK=>?_
   refine ZaT _ (.tmp 33) (.tmp 35) _ rfl w.heap.size 89 i0 _ 12 112 underlying128 hi cM cG cK rfl ZO (.slice av M cv) M (evCells (es.take q)) rfl qY.out (W4.heap.size+1) (some ⟨W4.heap.size,0,none⟩) 1 1 (evArr e).toList rfl vr.out (ZaK e) ZF ZO LT ?_;intro v7 w7 bX cN _;have gM:w7.ownsRow w.heap.size 89 12 v7 (es.take (q+1)).length (evCells (es.take (q+1))):=by
    rw[eI.out];have h:=bX;rw[HM.out] at h;exact RowE.snoc h
   have fd:Hid (Kept w.heap.size w w7):=ZH (⟨fi.out.below.grown cN fi.out.le (λ g hg=>(Zb qY.out hg).1),ZT fi.out.le cN.size⟩);have gW:=ZH gM;clear bX gM cN;refine hK.out _ _ ?_;clear hK K bT;repeat((first | refine ZSa ?_ | refine ZSb ?_ | refine ZSc ?_);simp only[Act.put,ZA,ZB,ZC])
   refine ZSf ?_;go_wp2
   go_roundw
   case rel=>exact⟨q+1,_,_,_,ZO,ZN,rfl,ZO,ga,gW,fd⟩
   case measure=>simp[intOf];omega
  ·obtain rfl:q=es.length:=ZO;rw[List.take_length] at HOr;obtain⟨av,cv,rfl,_⟩:=EvSl.ab HOr.out;go_wp2_with fail;go_ret2
   exact⟨_,rfl,HOr.out,db.out.below⟩
theorem Zat(f:Frm)(v:Value):(prog.info? 150).map (λ i=>i.size)=some (Za f v).size:=ZK
theorem Zpw{f:Frm}(h:RecOk f)(dF:f.kind=3){a:Option Addr}{n cap:Nat}{w:World}(hb:Bytes w a n cap (Zz f)):
  Calls prog 172 #[.slice a n cap] w λ r w'=>∃ v,r = .returned (.tuple #[Z8 f v,.bool true])/\w'.ownsRow w.heap.size 89 12 v f.events.length (evCells f.events)/\Below w.heap.size w w':=by
 have cI:=ZaF h;have cQ:=Za6 h;have hr:=h.r;have dJ:=h.upto;have fC:=h.len;have eb:=h.clock;obtain⟨kind,r,upto,clock,events⟩:=f;simp only[] at dF hr dJ fC eb;subst dF;have H:=ZH h;clear h;have dW:clock=ZCz:=H.out.clock0 ZM;have kd:events=[]:=H.out.events0 ZM;subst dW kd;obtain⟨T,hT⟩:∃ T,T=(Zd upto++[]):=⟨_,rfl⟩;have dZ:Zz ⟨3,r,upto,ZCz,[]⟩=3::r::T:=by rw[hT];simp[Zz,upK,clK,evK]
 rw[dZ] at hb cI cQ;have ux:1<=T.length:=by
  rw[hT];first|(have:=Z4 upto;rw[ZI];omega)|(have:=Z4 events.length;rw[ZI];omega)|(have:=Z4 (clock.get 4);simp only[Zw,ZI];omega)
 have eR:=hb.len;have kj:2+T.length=n:=by
  rw[←eR];simp only[List.length_cons];omega
 have uy:T.length<=60098:=by simp only[List.length_cons] at cQ;omega
 obtain⟨b,off,rfl,bY,bU⟩:=hb.pos ZO;have fZ:=hb.1;have k0:=bU 0 ZO;have k1:=bU 1 ZO;rw[Nat.add_zero,show(3::r::T).getD 0 0=3 from rfl] at k0;rw[show(3::r::T).getD 1 0=r from rfl] at k1;have cU:=hb.rest (k:=2) ZO;rw[if_neg ZO,show(3::r::T).drop 2=T from rfl] at cU;have er:Hid (∀ x∈T,x<256):=ZH (λ x hx=>cI x (List.mem_cons_of_mem _ (List.mem_cons_of_mem _ hx)));obtain⟨ga,HT⟩:=ZH2 cU hT;have km:¬ ((n:Int)<2):=ZO;have tO:(0:Int)<(n:Int):=ZO;have tP:0<n:=ZO;have tQ:1<n:=ZO;have kL:(1:Int)<(n:Int):=ZO;have kM:(2:Int)<=(n:Int):=ZO;have kN:(2:Int)<=(cap:Int):=ZO;have nD:IntKind.i64.wrap (r:Int)=(r:Int):=by rw[IntKind.wrap_i64];omega
 have uf:IntKind.i64.wrap (3:Int)=3:=by rw[IntKind.wrap_i64];omega
 have jx:¬ (cap=2):=ZO;obtain⟨w1,cV⟩:∃ w1,w1=w.alloc (.cells (Za ⟨0,0,0,ZCz,[]⟩ (.slice none 0 0)) 150):=⟨_,rfl⟩;have eA:Kept w.heap.size w w1:=by rw[cV];exact(ZKr w).alloc _
 have gb:Blk w1 w.heap.size 150 (Za ⟨0,0,0,ZCz,[]⟩ (.slice none 0 0)):=by rw[cV];exact ZBn _ _ _
 have ms:b<w1.heap.size:=ZR bY eA.le;have mB:w1.cell? ⟨b,off,none⟩=some (.int .u8 ((3:Nat):Int)):=by rw[eA.cells b _ bY];exact k0
 have mC:w1.cell? ⟨b,off+1,none⟩=some (.int .u8 (r:Int)):=by rw[eA.cells b _ bY];exact k1
 obtain⟨cE,ez,ft⟩:=ZH3 eA gb cV;clear hb cI cQ eR bU cU hT dZ eA gb cV k0 k1 eb;go_enter func172,ntmps172;go_wp2_with fail;change Code.wp _ _ _ _ (w.alloc (.cells (Za ⟨0,0,0,ZCz,[]⟩ (.slice none 0 0)) 150));rw[←ft.out];refine ZSi [(0,3),(1,3),(2,0),(3,3),(4,3),(5,3),(6,0),(7,3),(8,3),(9,1),(10,2)] λ bR=>?_
 repeat((first | refine ZSa ?_ | refine ZSb ?_ | refine ZSc ?_);simp only[Act.put,ZA,ZB,ZC])
 refine ZSd λ K hK=>?_
 go_simp;refine hK.out (λ w'=>Kept w1.heap.size w1 w') _ _ (λ _ h=>h) (bR.alloc _) (λ bT=>?_);clear hK K bR;repeat((first | refine ZSa ?_ | refine ZSb ?_ | refine ZSc ?_);simp only[Act.put,ZA,ZB,ZC])
 refine ZSe λ K hK=>?_
 go_simp;refine hK.out _ _ ?_;clear hK K;refine ZSf ?_;obtain⟨w2,cS⟩:∃ w2,w2=(w1.alloc (.cells (Za ⟨3,r,0,ZCz,[]⟩ (.slice none 0 0)) 150)).drew:=⟨_,rfl⟩;change Exit.then _ _ Exit.normal _ ((w1.alloc (.cells (Za ⟨3,r,0,ZCz,[]⟩ (.slice none 0 0)) 150)).drew);rw[←cS];have fu:Blk w2 w1.heap.size 150 (Za ⟨3,r,0,ZCz,[]⟩ (.slice none 0 0)):=by rw[cS];exact(ZBn _ _ _).drew
 have gm:Kept w.heap.size w w2:=by rw[cS];exact(cE.out.alloc _).drew
 have gI:Blk w2 w.heap.size 150 (Za ⟨0,0,0,ZCz,[]⟩ (.slice none 0 0)):=by rw[cS];exact(ez.out.alloc _).drew
 have nP:w.heap.size<w1.heap.size:=ez.out.lt;obtain⟨c0,c1,c2,c3,c4,c5,c6,c7,c8⟩:=fu.nine;have eY:=fu.lt;obtain⟨iw,cr,eU⟩:=ZH3 fu gm gI;clear fu gm gI cS bT cE ez ft mB mC;generalize w1.heap.size=G at *;have l6:w.heap.size≠G:=ZO;have mp:w.heap.size<=G:=ZO;go_wp2_with fail;refine(ZaJ 3 ZO ZO _).mono ?_;rintro _ w3 ⟨rfl,bZ⟩;rw[show upK 3=true from rfl,show evK 3=false from rfl,show clK 3=false from rfl];obtain⟨HF,HR,HK⟩:=ZH3 (iw.out.ob bZ) (eU.out.ob bZ) (cr.out.step bZ);have i5:=HF.out.lt;clear bZ c0 c1 c2 c3 c4 c5 c6 c7 c8 eY iw cr eU;have L6:n-2<=60098:=ZO;go_wp2_with fail;refine(ZeS (ga.out.kept HK.out.below (ZL _)) er.out upto dJ [] (by rw[HT.out])).mono ?_;rintro _ w4 ⟨A4,n4,C4,rfl,i3,qC,cz⟩;have fG:=HF.out.ob cz;obtain⟨c0,c1,c2,c3,c4,c5,c6,c7,c8⟩:=fG.nine;have f2:=fG.frozen 2;have eY:=fG.lt;obtain⟨fU,cZ,lY,fK⟩:=ZH4 (HR.out.ob cz) (HK.out.step cz) fG (i3 w ga.out);clear fG cz i3 HF HR HK;obtain⟨W5,gK⟩:∃ W5,W5=w4.setCell ⟨G,2,none⟩ (.int .i64 (upto:Int)):=⟨_,rfl⟩;have HF:Hid (Blk W5 G 150 (Za ⟨3,r,upto,ZCz,[]⟩ (.slice none 0 0))):=ZH (by rw[gK];exact lY.out.ai 2 _);have HR:Hid (Blk W5 w.heap.size 150 (Za ⟨0,0,0,ZCz,[]⟩ (.slice none 0 0))):=ZH (by rw[gK];exact fU.out.far l6 _);have HK:Hid (Kept w.heap.size w W5):=ZH (by rw[gK];exact cZ.out.setCell (by show w.heap.size<=G;omega) _);have py:=ZH gK;have L7:n4<=60098:=ZO;clear gK
 go_wp2_with (first
  |(refine wpList_load_row rfl 150 (.tmp 4) rfl G rfl 150 (Za ⟨3,r,upto,ZCz,[]⟩ (.slice none 0 0)) (0,0) _ (by rw[←py.out];exact HF.out) underlying150 rfl (Zat _ _) ?_
    rw[←py.out])
  |(refine wpList_store_row rfl 150 (.tmp 2) (.tmp 72) rfl w.heap.size (Za ⟨3,r,upto,ZCz,[]⟩ (.slice none 0 0)) rfl rfl 150 (Za ⟨0,0,0,ZCz,[]⟩ (.slice none 0 0)) HR.out (Zat _ _) rfl (Zbc _ _ _ _) ?_))
 refine bodyPost_ret (Zn rfl rfl rfl (run_loadVar_row _ _ _ _ _ _ _ (HR.out.row _) underlying150 rfl (Zat _ _))) rfl ?_;exact⟨(.slice none 0 0),rfl,⟨rfl,.inl ⟨rfl,rfl⟩⟩,(HK.out.row (ZL _) _).below⟩
theorem Zpx{f:Frm}(h:RecOk f)(dF:f.kind=4){a:Option Addr}{n cap:Nat}{w:World}(hb:Bytes w a n cap (Zz f)):
  Calls prog 172 #[.slice a n cap] w λ r w'=>∃ v,r = .returned (.tuple #[Z8 f v,.bool true])/\w'.ownsRow w.heap.size 89 12 v f.events.length (evCells f.events)/\Below w.heap.size w w':=by
 have cI:=ZaF h;have cQ:=Za6 h;have hr:=h.r;have dJ:=h.upto;have fC:=h.len;have eb:=h.clock;obtain⟨kind,r,upto,clock,events⟩:=f;simp only[] at dF hr dJ fC eb;subst dF;have H:=ZH h;clear h;have dW:clock=ZCz:=H.out.clock0 ZM;subst dW;obtain⟨T,hT⟩:∃ T,T=(Zd upto++(Zd events.length++(Zg events++[]))):=⟨_,rfl⟩;have dZ:Zz ⟨4,r,upto,ZCz,events⟩=4::r::T:=by rw[hT];simp[Zz,upK,clK,evK]
 rw[dZ] at hb cI cQ;have ux:1<=T.length:=by
  rw[hT];first|(have:=Z4 upto;rw[ZI];omega)|(have:=Z4 events.length;rw[ZI];omega)|(have:=Z4 (clock.get 4);simp only[Zw,ZI];omega)
 have eR:=hb.len;have kj:2+T.length=n:=by
  rw[←eR];simp only[List.length_cons];omega
 have uy:T.length<=60098:=by simp only[List.length_cons] at cQ;omega
 obtain⟨b,off,rfl,bY,bU⟩:=hb.pos ZO;have fZ:=hb.1;have k0:=bU 0 ZO;have k1:=bU 1 ZO;rw[Nat.add_zero,show(4::r::T).getD 0 0=4 from rfl] at k0;rw[show(4::r::T).getD 1 0=r from rfl] at k1;have cU:=hb.rest (k:=2) ZO;rw[if_neg ZO,show(4::r::T).drop 2=T from rfl] at cU;have er:Hid (∀ x∈T,x<256):=ZH (λ x hx=>cI x (List.mem_cons_of_mem _ (List.mem_cons_of_mem _ hx)));obtain⟨ga,HT⟩:=ZH2 cU hT;have km:¬ ((n:Int)<2):=ZO;have tO:(0:Int)<(n:Int):=ZO;have tP:0<n:=ZO;have tQ:1<n:=ZO;have kL:(1:Int)<(n:Int):=ZO;have kM:(2:Int)<=(n:Int):=ZO;have kN:(2:Int)<=(cap:Int):=ZO;have nD:IntKind.i64.wrap (r:Int)=(r:Int):=by rw[IntKind.wrap_i64];omega
 have uf:IntKind.i64.wrap (4:Int)=4:=by rw[IntKind.wrap_i64];omega
 have jx:¬ (cap=2):=ZO;obtain⟨w1,cV⟩:∃ w1,w1=w.alloc (.cells (Za ⟨0,0,0,ZCz,[]⟩ (.slice none 0 0)) 150):=⟨_,rfl⟩;have eA:Kept w.heap.size w w1:=by rw[cV];exact(ZKr w).alloc _
 have gb:Blk w1 w.heap.size 150 (Za ⟨0,0,0,ZCz,[]⟩ (.slice none 0 0)):=by rw[cV];exact ZBn _ _ _
 have ms:b<w1.heap.size:=ZR bY eA.le;have mB:w1.cell? ⟨b,off,none⟩=some (.int .u8 ((4:Nat):Int)):=by rw[eA.cells b _ bY];exact k0
 have mC:w1.cell? ⟨b,off+1,none⟩=some (.int .u8 (r:Int)):=by rw[eA.cells b _ bY];exact k1
 obtain⟨cE,ez,ft⟩:=ZH3 eA gb cV;clear hb cI cQ eR bU cU hT dZ eA gb cV k0 k1 eb;go_enter func172,ntmps172;go_wp2_with fail;change Code.wp _ _ _ _ (w.alloc (.cells (Za ⟨0,0,0,ZCz,[]⟩ (.slice none 0 0)) 150));rw[←ft.out];refine ZSi [(0,3),(1,3),(2,0),(3,3),(4,3),(5,3),(6,0),(7,3),(8,3),(9,1),(10,2)] λ bR=>?_
 repeat((first | refine ZSa ?_ | refine ZSb ?_ | refine ZSc ?_);simp only[Act.put,ZA,ZB,ZC])
 refine ZSd λ K hK=>?_
 go_simp;refine hK.out (λ w'=>Kept w1.heap.size w1 w') _ _ (λ _ h=>h) (bR.alloc _) (λ bT=>?_);clear hK K bR;repeat((first | refine ZSa ?_ | refine ZSb ?_ | refine ZSc ?_);simp only[Act.put,ZA,ZB,ZC])
 refine ZSe λ K hK=>?_
 go_simp;refine hK.out _ _ ?_;clear hK K;refine ZSf ?_;obtain⟨w2,cS⟩:∃ w2,w2=(w1.alloc (.cells (Za ⟨4,r,0,ZCz,[]⟩ (.slice none 0 0)) 150)).drew:=⟨_,rfl⟩;change Exit.then _ _ Exit.normal _ ((w1.alloc (.cells (Za ⟨4,r,0,ZCz,[]⟩ (.slice none 0 0)) 150)).drew);rw[←cS];have fu:Blk w2 w1.heap.size 150 (Za ⟨4,r,0,ZCz,[]⟩ (.slice none 0 0)):=by rw[cS];exact(ZBn _ _ _).drew
 have gm:Kept w.heap.size w w2:=by rw[cS];exact(cE.out.alloc _).drew
 have gI:Blk w2 w.heap.size 150 (Za ⟨0,0,0,ZCz,[]⟩ (.slice none 0 0)):=by rw[cS];exact(ez.out.alloc _).drew
 have nP:w.heap.size<w1.heap.size:=ez.out.lt;obtain⟨c0,c1,c2,c3,c4,c5,c6,c7,c8⟩:=fu.nine;have eY:=fu.lt;obtain⟨iw,cr,eU⟩:=ZH3 fu gm gI;clear fu gm gI cS bT cE ez ft mB mC;generalize w1.heap.size=G at *;have l6:w.heap.size≠G:=ZO;have mp:w.heap.size<=G:=ZO;go_wp2_with fail;refine(ZaJ 4 ZO ZO _).mono ?_;rintro _ w3 ⟨rfl,bZ⟩;rw[show upK 4=true from rfl,show evK 4=true from rfl,show clK 4=false from rfl];obtain⟨HF,HR,HK⟩:=ZH3 (iw.out.ob bZ) (eU.out.ob bZ) (cr.out.step bZ);have i5:=HF.out.lt;clear bZ c0 c1 c2 c3 c4 c5 c6 c7 c8 eY iw cr eU;have L6:n-2<=60098:=ZO;go_wp2_with fail;refine(ZeS (ga.out.kept HK.out.below (ZL _)) er.out upto dJ (Zd events.length++(Zg events++[])) (by rw[HT.out])).mono ?_;rintro _ w4 ⟨A4,n4,C4,rfl,i3,qC,cz⟩;have fG:=HF.out.ob cz;obtain⟨c0,c1,c2,c3,c4,c5,c6,c7,c8⟩:=fG.nine;have f2:=fG.frozen 2;have eY:=fG.lt;obtain⟨fU,cZ,lY,fK⟩:=ZH4 (HR.out.ob cz) (HK.out.step cz) fG (i3 w ga.out);clear fG cz i3 HF HR HK;obtain⟨W5,gK⟩:∃ W5,W5=w4.setCell ⟨G,2,none⟩ (.int .i64 (upto:Int)):=⟨_,rfl⟩;have HF:Hid (Blk W5 G 150 (Za ⟨4,r,upto,ZCz,[]⟩ (.slice none 0 0))):=ZH (by rw[gK];exact lY.out.ai 2 _);have HR:Hid (Blk W5 w.heap.size 150 (Za ⟨0,0,0,ZCz,[]⟩ (.slice none 0 0))):=ZH (by rw[gK];exact fU.out.far l6 _);have HK:Hid (Kept w.heap.size w W5):=ZH (by rw[gK];exact cZ.out.setCell (by show w.heap.size<=G;omega) _);have py:=ZH gK;have L7:n4<=60098:=ZO;clear gK;go_wp2_with fail;rw[←py.out];refine(Zgk (fK.out.kept HK.out.below (ZL _)) (λ x hx=>er.out x (by rw[HT.out];exact List.mem_append_right _ hx)) ZO events H.out.events fC [] rfl).mono ?_;rintro _ w6 ⟨VV,rfl,nC,eu⟩;have lj:=HF.out.ob eu;obtain⟨c0,c1,c2,c3,c4,c5,c6,c7,c8⟩:=lj.nine;have f8:=lj.frozen 8;have tK:=lj.lt;obtain⟨mG,me⟩:=ZH2 (HR.out.ob eu) (HK.out.step eu);have lK:=HF.out.lt;obtain⟨BB,oe⟩:∃ BB,BB=W5.heap.size:=⟨_,rfl⟩;rw[←oe] at nC lK;obtain⟨av,cv,rfl,_⟩:=EvSl.ab nC;obtain⟨qd,sU⟩:=ZH2 lj nC;clear lj eu nC oe HF HR HK;obtain⟨W7,iK⟩:∃ W7,W7=w6.setCell ⟨G,8,none⟩ (.slice av events.length cv):=⟨_,rfl⟩;have HF:Hid (Blk W7 G 150 (Za ⟨4,r,upto,ZCz,events⟩ (.slice av events.length cv))):=ZH (by rw[iK];exact qd.out.ai 8 _);have HR:Hid (Blk W7 w.heap.size 150 (Za ⟨0,0,0,ZCz,[]⟩ (.slice none 0 0))):=ZH (by rw[iK];exact mG.out.far l6 _);have HK:Hid (Kept w.heap.size w W7):=ZH (by rw[iK];exact me.out.setCell (by show w.heap.size<=G;omega) _)
 have sV:Hid (W7.ownsRow BB 89 12 (.slice av events.length cv) events.length (evCells events)):=ZH (by
  rw[iK]
  exact Zh sU.out (λ g hg _=>Below.heap_setCell _ _ _ _ (λ e=>by have:=Zb sU.out hg;have e:g=G:=e;omega)))
 have ri:=ZH iK;clear iK
 go_wp2_with (first
  |(refine wpList_load_row rfl 150 (.tmp 4) rfl G rfl 150 (Za ⟨4,r,upto,ZCz,events⟩ (.slice av events.length cv)) (0,0) _ (by rw[←ri.out];exact HF.out) underlying150 rfl (Zat _ _) ?_
    rw[←ri.out])
  |(refine wpList_store_row rfl 150 (.tmp 2) (.tmp 72) rfl w.heap.size (Za ⟨4,r,upto,ZCz,events⟩ (.slice av events.length cv)) rfl rfl 150 (Za ⟨0,0,0,ZCz,[]⟩ (.slice none 0 0)) HR.out (Zat _ _) rfl (Zbc _ _ _ _) ?_))
 refine bodyPost_ret (Zn rfl rfl rfl (run_loadVar_row _ _ _ _ _ _ _ (HR.out.row _) underlying150 rfl (Zat _ _))) rfl ?_;exact⟨(.slice av events.length cv),rfl,Zi (Zh sV.out (λ g hg _=>setRow_other _ _ _ _ (by have:=Zb sV.out hg;omega))) ZO,(HK.out.row (ZL _) _).below⟩
theorem Zpy{f:Frm}(h:RecOk f)(dF:f.kind=5){a:Option Addr}{n cap:Nat}{w:World}(hb:Bytes w a n cap (Zz f)):
  Calls prog 172 #[.slice a n cap] w λ r w'=>∃ v,r = .returned (.tuple #[Z8 f v,.bool true])/\w'.ownsRow w.heap.size 89 12 v f.events.length (evCells f.events)/\Below w.heap.size w w':=by
 have cI:=ZaF h;have cQ:=Za6 h;have hr:=h.r;have dJ:=h.upto;have fC:=h.len;have eb:=h.clock;obtain⟨kind,r,upto,clock,events⟩:=f;simp only[] at dF hr dJ fC eb;subst dF;have H:=ZH h;clear h;have dW:clock=ZCz:=H.out.clock0 ZM;have cX:upto=0:=H.out.upto0 ZM ZM;subst dW cX;obtain⟨T,hT⟩:∃ T,T=(Zd events.length++(Zg events++[])):=⟨_,rfl⟩;have dZ:Zz ⟨5,r,0,ZCz,events⟩=5::r::T:=by rw[hT];simp[Zz,upK,clK,evK]
 rw[dZ] at hb cI cQ;have ux:1<=T.length:=by
  rw[hT];first|(have:=Z4 upto;rw[ZI];omega)|(have:=Z4 events.length;rw[ZI];omega)|(have:=Z4 (clock.get 4);simp only[Zw,ZI];omega)
 have eR:=hb.len;have kj:2+T.length=n:=by
  rw[←eR];simp only[List.length_cons];omega
 have uy:T.length<=60098:=by simp only[List.length_cons] at cQ;omega
 obtain⟨b,off,rfl,bY,bU⟩:=hb.pos ZO;have fZ:=hb.1;have k0:=bU 0 ZO;have k1:=bU 1 ZO;rw[Nat.add_zero,show(5::r::T).getD 0 0=5 from rfl] at k0;rw[show(5::r::T).getD 1 0=r from rfl] at k1;have cU:=hb.rest (k:=2) ZO;rw[if_neg ZO,show(5::r::T).drop 2=T from rfl] at cU;have er:Hid (∀ x∈T,x<256):=ZH (λ x hx=>cI x (List.mem_cons_of_mem _ (List.mem_cons_of_mem _ hx)));obtain⟨ga,HT⟩:=ZH2 cU hT;have km:¬ ((n:Int)<2):=ZO;have tO:(0:Int)<(n:Int):=ZO;have tP:0<n:=ZO;have tQ:1<n:=ZO;have kL:(1:Int)<(n:Int):=ZO;have kM:(2:Int)<=(n:Int):=ZO;have kN:(2:Int)<=(cap:Int):=ZO;have nD:IntKind.i64.wrap (r:Int)=(r:Int):=by rw[IntKind.wrap_i64];omega
 have uf:IntKind.i64.wrap (5:Int)=5:=by rw[IntKind.wrap_i64];omega
 have jx:¬ (cap=2):=ZO;obtain⟨w1,cV⟩:∃ w1,w1=w.alloc (.cells (Za ⟨0,0,0,ZCz,[]⟩ (.slice none 0 0)) 150):=⟨_,rfl⟩;have eA:Kept w.heap.size w w1:=by rw[cV];exact(ZKr w).alloc _
 have gb:Blk w1 w.heap.size 150 (Za ⟨0,0,0,ZCz,[]⟩ (.slice none 0 0)):=by rw[cV];exact ZBn _ _ _
 have ms:b<w1.heap.size:=ZR bY eA.le;have mB:w1.cell? ⟨b,off,none⟩=some (.int .u8 ((5:Nat):Int)):=by rw[eA.cells b _ bY];exact k0
 have mC:w1.cell? ⟨b,off+1,none⟩=some (.int .u8 (r:Int)):=by rw[eA.cells b _ bY];exact k1
 obtain⟨cE,ez,ft⟩:=ZH3 eA gb cV;clear hb cI cQ eR bU cU hT dZ eA gb cV k0 k1 eb;go_enter func172,ntmps172;go_wp2_with fail;change Code.wp _ _ _ _ (w.alloc (.cells (Za ⟨0,0,0,ZCz,[]⟩ (.slice none 0 0)) 150));rw[←ft.out];refine ZSi [(0,3),(1,3),(2,0),(3,3),(4,3),(5,3),(6,0),(7,3),(8,3),(9,1),(10,2)] λ bR=>?_
 repeat((first | refine ZSa ?_ | refine ZSb ?_ | refine ZSc ?_);simp only[Act.put,ZA,ZB,ZC])
 refine ZSd λ K hK=>?_
 go_simp;refine hK.out (λ w'=>Kept w1.heap.size w1 w') _ _ (λ _ h=>h) (bR.alloc _) (λ bT=>?_);clear hK K bR;repeat((first | refine ZSa ?_ | refine ZSb ?_ | refine ZSc ?_);simp only[Act.put,ZA,ZB,ZC])
 refine ZSe λ K hK=>?_
 go_simp;refine hK.out _ _ ?_;clear hK K;refine ZSf ?_;obtain⟨w2,cS⟩:∃ w2,w2=(w1.alloc (.cells (Za ⟨5,r,0,ZCz,[]⟩ (.slice none 0 0)) 150)).drew:=⟨_,rfl⟩;change Exit.then _ _ Exit.normal _ ((w1.alloc (.cells (Za ⟨5,r,0,ZCz,[]⟩ (.slice none 0 0)) 150)).drew);rw[←cS];have fu:Blk w2 w1.heap.size 150 (Za ⟨5,r,0,ZCz,[]⟩ (.slice none 0 0)):=by rw[cS];exact(ZBn _ _ _).drew
 have gm:Kept w.heap.size w w2:=by rw[cS];exact(cE.out.alloc _).drew
 have gI:Blk w2 w.heap.size 150 (Za ⟨0,0,0,ZCz,[]⟩ (.slice none 0 0)):=by rw[cS];exact(ez.out.alloc _).drew
 have nP:w.heap.size<w1.heap.size:=ez.out.lt;obtain⟨c0,c1,c2,c3,c4,c5,c6,c7,c8⟩:=fu.nine;have eY:=fu.lt;obtain⟨iw,cr,eU⟩:=ZH3 fu gm gI;clear fu gm gI cS bT cE ez ft mB mC;generalize w1.heap.size=G at *;have l6:w.heap.size≠G:=ZO;have mp:w.heap.size<=G:=ZO;go_wp2_with fail;refine(ZaJ 5 ZO ZO _).mono ?_;rintro _ w3 ⟨rfl,bZ⟩;rw[show upK 5=false from rfl,show evK 5=true from rfl,show clK 5=false from rfl];obtain⟨HF,HR,HK⟩:=ZH3 (iw.out.ob bZ) (eU.out.ob bZ) (cr.out.step bZ);have i5:=HF.out.lt;clear bZ c0 c1 c2 c3 c4 c5 c6 c7 c8 eY iw cr eU;go_wp2_with fail;refine(Zgk (ga.out.kept HK.out.below (ZL _)) (er.out) ZO events H.out.events fC [] HT.out).mono ?_;rintro _ w6 ⟨VV,rfl,nC,eu⟩;have lj:=HF.out.ob eu;obtain⟨c0,c1,c2,c3,c4,c5,c6,c7,c8⟩:=lj.nine;have f8:=lj.frozen 8;have tK:=lj.lt;obtain⟨mG,me⟩:=ZH2 (HR.out.ob eu) (HK.out.step eu);have lK:=HF.out.lt;obtain⟨BB,oe⟩:∃ BB,BB=w3.heap.size:=⟨_,rfl⟩;rw[←oe] at nC lK;obtain⟨av,cv,rfl,_⟩:=EvSl.ab nC;obtain⟨qd,sU⟩:=ZH2 lj nC;clear lj eu nC oe HF HR HK;obtain⟨W7,iK⟩:∃ W7,W7=w6.setCell ⟨G,8,none⟩ (.slice av events.length cv):=⟨_,rfl⟩;have HF:Hid (Blk W7 G 150 (Za ⟨5,r,0,ZCz,events⟩ (.slice av events.length cv))):=ZH (by rw[iK];exact qd.out.ai 8 _);have HR:Hid (Blk W7 w.heap.size 150 (Za ⟨0,0,0,ZCz,[]⟩ (.slice none 0 0))):=ZH (by rw[iK];exact mG.out.far l6 _);have HK:Hid (Kept w.heap.size w W7):=ZH (by rw[iK];exact me.out.setCell (by show w.heap.size<=G;omega) _)
 have sV:Hid (W7.ownsRow BB 89 12 (.slice av events.length cv) events.length (evCells events)):=ZH (by
  rw[iK]
  exact Zh sU.out (λ g hg _=>Below.heap_setCell _ _ _ _ (λ e=>by have:=Zb sU.out hg;have e:g=G:=e;omega)))
 have ri:=ZH iK;clear iK
 go_wp2_with (first
  |(refine wpList_load_row rfl 150 (.tmp 4) rfl G rfl 150 (Za ⟨5,r,0,ZCz,events⟩ (.slice av events.length cv)) (0,0) _ (by rw[←ri.out];exact HF.out) underlying150 rfl (Zat _ _) ?_
    rw[←ri.out])
  |(refine wpList_store_row rfl 150 (.tmp 2) (.tmp 72) rfl w.heap.size (Za ⟨5,r,0,ZCz,events⟩ (.slice av events.length cv)) rfl rfl 150 (Za ⟨0,0,0,ZCz,[]⟩ (.slice none 0 0)) HR.out (Zat _ _) rfl (Zbc _ _ _ _) ?_))
 refine bodyPost_ret (Zn rfl rfl rfl (run_loadVar_row _ _ _ _ _ _ _ (HR.out.row _) underlying150 rfl (Zat _ _))) rfl ?_;exact⟨(.slice av events.length cv),rfl,Zi (Zh sV.out (λ g hg _=>setRow_other _ _ _ _ (by have:=Zb sV.out hg;omega))) ZO,(HK.out.row (ZL _) _).below⟩
end Go.Proofs.YtjkfognelhiepaaGreat
