import Derived.Test.YtjkfognelhiepaaGreatC10
namespace Go.Proofs.YtjkfognelhiepaaGreat
open Go.RowKit _root_.Go.Proofs.Tryz
set_option maxRecDepth 100000
set_option maxHeartbeats 8000000
structure Frm where
 kind:Nat
 r:Nat
 upto:Nat
 clock:Clk
 events:List Ev
structure Frm.Ok(f:Frm):Prop where
 kind1:1<=f.kind
 kind5:f.kind<=5
 r:f.r<5
 upto:f.upto<=1048576
 upto0:f.kind≠2->f.upto=0
 clock:∀ i,f.clock.get i<=1048576
 clock0:f.kind≠3->f.kind≠5->f.clock=ZCz
 events:∀ e∈f.events,e.Ok
 len:f.events.length<=20
 push:f.kind=1->1<=f.events.length/\∀ e∈f.events,e.r=f.r
 events0:f.kind≠1->f.kind≠4->f.events=[]
abbrev Za(f:Frm)(v:Value):Array Value:=#[.int .i64 f.kind,.int .i64 f.r,.int .i64 f.upto,.int .i64 f.clock.c0,.int .i64 f.clock.c1,.int .i64 f.clock.c2,.int .i64 f.clock.c3,.int .i64 f.clock.c4,v]
abbrev Z8(f:Frm)(v:Value):Value := .agg (Za f v)
theorem Blk.nine{w:World}{g:Nat}{t:TypeId}{v0 v1 v2 v3 v4 v5 v6 v7 v8:Value}(h:Blk w g t #[v0,v1,v2,v3,v4,v5,v6,v7,v8]):w.cell? ⟨g,0,none⟩=some v0/\w.cell? ⟨g,1,none⟩=some v1/\w.cell? ⟨g,2,none⟩=some v2/\w.cell? ⟨g,3,none⟩=some v3/\w.cell? ⟨g,4,none⟩=some v4/\w.cell? ⟨g,5,none⟩=some v5/\w.cell? ⟨g,6,none⟩=some v6/\w.cell? ⟨g,7,none⟩=some v7/\w.cell? ⟨g,8,none⟩=some v8 :=
 ⟨h.cell 0,h.cell 1,h.cell 2,h.cell 3,h.cell 4,h.cell 5,h.cell 6,h.cell 7,h.cell 8⟩
theorem Zcy(w:World):(Op.equalIn 10000 44 (.agg #[.int .i64 (ZCz.c0:Int),.int .i64 (ZCz.c1:Int),.int .i64 (ZCz.c2:Int),.int .i64 (ZCz.c3:Int),.int .i64 (ZCz.c4:Int)]) (.agg #[.int .i64 0,.int .i64 0,.int .i64 0,.int .i64 0,.int .i64 0])).run prog w = .ok true w :=
 ZaO ZCz ZCz 9998 w
theorem Zex{f:Frm}(h:f.Ok){a:Option Addr}{n cap:Nat}{w:World}(hs:EvSl w a n cap f.events):Calls prog 119 #[Z8 f (.slice a n cap)] w (Zv (.bool true) w):=by
 have cA:=(ZKr w).alloc (.cells (Za f (.slice a n cap)) 158);obtain⟨di,ei⟩:=ZH2 (ZBn w 158 (Za f (.slice a n cap))) (hs.below cA.below);have k1:=h.kind1;have k5:=h.kind5;have hr:=h.r;have dJ:=h.upto;have hlen:=h.len;have fw:=hs.2.2.1;have r0:(0:Int)<=(f.r:Int):=ZO;have r5:(f.r:Int)<5:=ZO;have Cn:¬ ((f.r:Int)<0):=ZO;have Co:¬ ((5:Int)<=(f.r:Int)):=ZO;obtain⟨H,df⟩:=ZH2 h cA;clear h cA hs;have kw:=Zci f.kind k1 k5;have rv:=Zcy;go_enter func119,ntmps119;go_wp2_with fail;refine(kw _).mono ?_;rintro _ w1 ⟨rfl,bS⟩;obtain⟨cE,cL,dV⟩:=ZH3 (df.out.step bS) (di.out.ob bS) (ei.out.below bS);clear bS df di ei kw;obtain⟨kind,r,upto,clock,events⟩:=f;simp only[] at *;rcases(by omega:kind=1∨kind=2∨kind=3∨kind=4∨kind=5) with rfl | rfl | rfl | rfl | rfl
 ·have dW:clock=ZCz:=H.out.clock0 ZM ZM;have cX:upto=0:=H.out.upto0 ZM;subst dW cX;rw[show Za8 1 = .agg #[.bool true,.bool false,.bool false] from rfl];have qB:(1:Int)<=(n:Int):=by have:=(H.out.push rfl).1;simp only[] at this;omega
  have mN:=(H.out.push rfl).2;simp only[] at mN;obtain⟨c0,c1,c2,c3,c4,c5,c6,c7,c8⟩:=cL.out.nine;have ce:=cL.out.lt;go_wp2_with fail;refine(ZbB 0 ZO _).mono ?_;rintro _ w2 ⟨rfl,bW⟩;have cJ:=(cE.out.alloc (.cells #[.bool true,.bool false,.bool false] 225)).step bW;have dd:=(cL.out.alloc (.cells #[.bool true,.bool false,.bool false] 225)).ob bW;have mq:=(dV.out.below ((ZW w1.heap.size w1).alloc (ZL _) (.cells #[.bool true,.bool false,.bool false] 225))).below bW;have jO:=(ZBn w1 225 #[.bool true,.bool false,.bool false]).ob bW;obtain⟨d0,d1,d2⟩:=jO.three;have gp:=jO.lt;obtain⟨cr,cH,eP⟩:=ZH3 cJ dd mq;clear cJ dd mq jO bW c0 c1 c2 c3 c4 c5 c6 c7 c8 ce;obtain⟨c0,c1,c2,c3,c4,c5,c6,c7,c8⟩:=cH.out.nine;have ce:=cH.out.lt;go_wp2_with fail;clear d0 d1 d2 gp;go_loopw [6,65] (λ _ i wr=>∃ k:Nat,k<=5/\i = .int .i64 k/\Hid (Kept w2.heap.size w2 wr)) (λ _ i _=>5-(intOf i).toNat)
  case atStart=>exact⟨0,ZO,rfl,ZH (ZKr _)⟩
  case round =>
   obtain⟨k,hk,rfl,db⟩:=hrel;by_cases ef:k<5
   ·have jC:(k:Int)<5:=ZO;have jR:=λ w=>Zah ZCz k ef w
    go_wp2_with fail;refine(ZbB (ZCz.get k) (H.out.clock k) _).mono ?_;rintro _ w3 ⟨rfl,bZ⟩;have cC:=ZH (db.out.step bZ);clear bZ;go_wp2
    go_roundw
    case rel=>exact⟨k+1,ZO,ZN,cC⟩
    case measure=>simp[intOf];omega
   ·obtain rfl:k=5:=ZO;have fg:=cH.out.ob db.out.below;have nL:=eP.out.below db.out.below;have cY:=cr.out.trans db.out cr.out.le;obtain⟨dj,iq,cC⟩:=ZH3 fg nL cY;clear fg nL cY db c0 c1 c2 c3 c4 c5 c6 c7 c8 ce;obtain⟨c0,c1,c2,c3,c4,c5,c6,c7,c8⟩:=dj.out.nine;have ce:=dj.out.lt;have wO:¬ ((20:Int)<(n:Int)):=ZO;go_wp2_with fail;go_loopw [90] (λ i j5=>∃ q:Nat,q<=n/\i = .int .i64 q/\Hid (Kept wr.heap.size wr j5)) (λ i _=>n-(intOf i).toNat)
    case atStart=>exact⟨0,ZO,rfl,ZH (ZKr _)⟩
    case round =>
     obtain⟨q,hq,rfl,gC⟩:=hrel;by_cases dy:q<n
     ·obtain⟨e,he⟩:∃ e,events[q]? = some e:=⟨_,ZX (by rw[fw];exact dy)⟩;have mv:=ZY he;have dM:=ZH (H.out.events e mv);have dz:((e.r:Int)==(r:Int))=true:=by simp[mN e mv]
      have ig:=iq.out.below gC.out.below;obtain⟨bk,off,rfl,cQ,e0,e1,e2,e3,e4,e5,e6,e7,e8,e9,iJ,ja⟩:=ig.at_ he;have hx:=ZBn wr 89 (evArr e);obtain⟨x0,x1,x2,x3,x4,x5,x6,x7,x8,x9,eE,eG⟩:=hx.ae;have ka:=(dj.out.ob gC.out.below);obtain⟨HX,qN,gU⟩:=ZH3 hx (ka.alloc (.cells (evArr e) 89)) (gC.out.alloc (.cells (evArr e) 89));clear ig he mv hx ka;go_wp2_with fail;refine(ZeA e _ dM.out).mono ?_;rintro _ w5 ⟨rfl,dw⟩;have hb:=qN.out.ob dw;have BE:=HX.out.ob dw;obtain⟨b0,b1,_⟩:=hb.nine;have y0:=BE.cell 0;have rD:=hb.lt;have gp:=BE.lt;have fi:=ZH (gU.out.step dw);clear hb BE dw x0 x1 x2 x3 x4 x5 x6 x7 x8 x9 eE eG;go_wp2
      go_roundw
      case rel=>exact⟨q+1,ZO,ZN,fi⟩
      case measure=>simp[intOf];omega
     ·obtain rfl:q=n:=ZO;go_wp2
      go_ret;exact⟨rfl,(cC.out.trans gC.out cC.out.le).below⟩
 ·have dW:clock=ZCz:=H.out.clock0 ZM ZM;have kd:events=[]:=H.out.events0 ZM ZM;subst dW kd;obtain rfl:n=0:=fw.symm;rw[show Za8 2 = .agg #[.bool false,.bool true,.bool false] from rfl];obtain⟨c0,c1,c2,c3,c4,c5,c6,c7,c8⟩:=cL.out.nine;have ce:=cL.out.lt;go_wp2_with fail;refine(ZbB upto ZO _).mono ?_;rintro _ w2 ⟨rfl,bW⟩;have cJ:=(cE.out.alloc (.cells #[.bool false,.bool true,.bool false] 225)).step bW;have dd:=(cL.out.alloc (.cells #[.bool false,.bool true,.bool false] 225)).ob bW;have mq:=(dV.out.below ((ZW w1.heap.size w1).alloc (ZL _) (.cells #[.bool false,.bool true,.bool false] 225))).below bW;have jO:=(ZBn w1 225 #[.bool false,.bool true,.bool false]).ob bW;obtain⟨d0,d1,d2⟩:=jO.three;have gp:=jO.lt;obtain⟨cr,cH,eP⟩:=ZH3 cJ dd mq;clear cJ dd mq jO bW c0 c1 c2 c3 c4 c5 c6 c7 c8 ce;obtain⟨c0,c1,c2,c3,c4,c5,c6,c7,c8⟩:=cH.out.nine;have ce:=cH.out.lt;go_wp2_with fail;clear d0 d1 d2 gp;go_loopw [6,65] (λ _ i wr=>∃ k:Nat,k<=5/\i = .int .i64 k/\Hid (Kept w2.heap.size w2 wr)) (λ _ i _=>5-(intOf i).toNat)
  case atStart=>exact⟨0,ZO,rfl,ZH (ZKr _)⟩
  case round =>
   obtain⟨k,hk,rfl,db⟩:=hrel;by_cases ef:k<5
   ·have jC:(k:Int)<5:=ZO;have jR:=λ w=>Zah ZCz k ef w
    go_wp2_with fail;refine(ZbB (ZCz.get k) (H.out.clock k) _).mono ?_;rintro _ w3 ⟨rfl,bZ⟩;have cC:=ZH (db.out.step bZ);clear bZ;go_wp2
    go_roundw
    case rel=>exact⟨k+1,ZO,ZN,cC⟩
    case measure=>simp[intOf];omega
   ·obtain rfl:k=5:=ZO;have fg:=cH.out.ob db.out.below;have nL:=eP.out.below db.out.below;have cY:=cr.out.trans db.out cr.out.le;obtain⟨dj,iq,cC⟩:=ZH3 fg nL cY;clear fg nL cY db c0 c1 c2 c3 c4 c5 c6 c7 c8 ce;obtain⟨c0,c1,c2,c3,c4,c5,c6,c7,c8⟩:=dj.out.nine;have ce:=dj.out.lt;have wO:¬ ((20:Int)<(0:Int)):=ZO;go_wp2_with fail;go_loopw [90] (λ i j5=>∃ q:Nat,q<=0/\i = .int .i64 q/\Hid (Kept wr.heap.size wr j5)) (λ i _=>0-(intOf i).toNat)
    case atStart=>exact⟨0,ZO,rfl,ZH (ZKr _)⟩
    case round =>
     obtain⟨q,hq,rfl,gC⟩:=hrel;by_cases dy:q<0
     ·omega
     ·obtain rfl:q=0:=ZO;go_wp2
      go_ret;exact⟨rfl,(cC.out.trans gC.out cC.out.le).below⟩
 ·have cX:upto=0:=H.out.upto0 ZM;have kd:events=[]:=H.out.events0 ZM ZM;subst cX kd;obtain rfl:n=0:=fw.symm;rw[show Za8 3 = .agg #[.bool false,.bool false,.bool true] from rfl];obtain⟨c0,c1,c2,c3,c4,c5,c6,c7,c8⟩:=cL.out.nine;have ce:=cL.out.lt;go_wp2_with fail;refine(ZbB 0 ZO _).mono ?_;rintro _ w2 ⟨rfl,bW⟩;have cJ:=(cE.out.alloc (.cells #[.bool false,.bool false,.bool true] 225)).step bW;have dd:=(cL.out.alloc (.cells #[.bool false,.bool false,.bool true] 225)).ob bW;have mq:=(dV.out.below ((ZW w1.heap.size w1).alloc (ZL _) (.cells #[.bool false,.bool false,.bool true] 225))).below bW;have jO:=(ZBn w1 225 #[.bool false,.bool false,.bool true]).ob bW;obtain⟨d0,d1,d2⟩:=jO.three;have gp:=jO.lt;obtain⟨cr,cH,eP⟩:=ZH3 cJ dd mq;clear cJ dd mq jO bW c0 c1 c2 c3 c4 c5 c6 c7 c8 ce;obtain⟨c0,c1,c2,c3,c4,c5,c6,c7,c8⟩:=cH.out.nine;have ce:=cH.out.lt;go_wp2_with fail;clear d0 d1 d2 gp;go_loopw [6,65] (λ _ i wr=>∃ k:Nat,k<=5/\i = .int .i64 k/\Hid (Kept w2.heap.size w2 wr)) (λ _ i _=>5-(intOf i).toNat)
  case atStart=>exact⟨0,ZO,rfl,ZH (ZKr _)⟩
  case round =>
   obtain⟨k,hk,rfl,db⟩:=hrel;by_cases ef:k<5
   ·have jC:(k:Int)<5:=ZO;have jR:=λ w=>Zah clock k ef w
    go_wp2_with fail;refine(ZbB (clock.get k) (H.out.clock k) _).mono ?_;rintro _ w3 ⟨rfl,bZ⟩;have cC:=ZH (db.out.step bZ);clear bZ;go_wp2
    go_roundw
    case rel=>exact⟨k+1,ZO,ZN,cC⟩
    case measure=>simp[intOf];omega
   ·obtain rfl:k=5:=ZO;have fg:=cH.out.ob db.out.below;have nL:=eP.out.below db.out.below;have cY:=cr.out.trans db.out cr.out.le;obtain⟨dj,iq,cC⟩:=ZH3 fg nL cY;clear fg nL cY db c0 c1 c2 c3 c4 c5 c6 c7 c8 ce;obtain⟨c0,c1,c2,c3,c4,c5,c6,c7,c8⟩:=dj.out.nine;have ce:=dj.out.lt;have wO:¬ ((20:Int)<(0:Int)):=ZO;go_wp2_with fail;go_loopw [90] (λ i j5=>∃ q:Nat,q<=0/\i = .int .i64 q/\Hid (Kept wr.heap.size wr j5)) (λ i _=>0-(intOf i).toNat)
    case atStart=>exact⟨0,ZO,rfl,ZH (ZKr _)⟩
    case round =>
     obtain⟨q,hq,rfl,gC⟩:=hrel;by_cases dy:q<0
     ·omega
     ·obtain rfl:q=0:=ZO;go_wp2
      go_ret;exact⟨rfl,(cC.out.trans gC.out cC.out.le).below⟩
 ·have dW:clock=ZCz:=H.out.clock0 ZM ZM;have cX:upto=0:=H.out.upto0 ZM;subst dW cX;rw[show Za8 4 = .agg #[.bool true,.bool false,.bool false] from rfl];obtain⟨c0,c1,c2,c3,c4,c5,c6,c7,c8⟩:=cL.out.nine;have ce:=cL.out.lt;go_wp2_with fail;refine(ZbB 0 ZO _).mono ?_;rintro _ w2 ⟨rfl,bW⟩;have cJ:=(cE.out.alloc (.cells #[.bool true,.bool false,.bool false] 225)).step bW;have dd:=(cL.out.alloc (.cells #[.bool true,.bool false,.bool false] 225)).ob bW;have mq:=(dV.out.below ((ZW w1.heap.size w1).alloc (ZL _) (.cells #[.bool true,.bool false,.bool false] 225))).below bW;have jO:=(ZBn w1 225 #[.bool true,.bool false,.bool false]).ob bW;obtain⟨d0,d1,d2⟩:=jO.three;have gp:=jO.lt;obtain⟨cr,cH,eP⟩:=ZH3 cJ dd mq;clear cJ dd mq jO bW c0 c1 c2 c3 c4 c5 c6 c7 c8 ce;obtain⟨c0,c1,c2,c3,c4,c5,c6,c7,c8⟩:=cH.out.nine;have ce:=cH.out.lt;go_wp2_with fail;clear d0 d1 d2 gp;go_loopw [6,65] (λ _ i wr=>∃ k:Nat,k<=5/\i = .int .i64 k/\Hid (Kept w2.heap.size w2 wr)) (λ _ i _=>5-(intOf i).toNat)
  case atStart=>exact⟨0,ZO,rfl,ZH (ZKr _)⟩
  case round =>
   obtain⟨k,hk,rfl,db⟩:=hrel;by_cases ef:k<5
   ·have jC:(k:Int)<5:=ZO;have jR:=λ w=>Zah ZCz k ef w
    go_wp2_with fail;refine(ZbB (ZCz.get k) (H.out.clock k) _).mono ?_;rintro _ w3 ⟨rfl,bZ⟩;have cC:=ZH (db.out.step bZ);clear bZ;go_wp2
    go_roundw
    case rel=>exact⟨k+1,ZO,ZN,cC⟩
    case measure=>simp[intOf];omega
   ·obtain rfl:k=5:=ZO;have fg:=cH.out.ob db.out.below;have nL:=eP.out.below db.out.below;have cY:=cr.out.trans db.out cr.out.le;obtain⟨dj,iq,cC⟩:=ZH3 fg nL cY;clear fg nL cY db c0 c1 c2 c3 c4 c5 c6 c7 c8 ce;obtain⟨c0,c1,c2,c3,c4,c5,c6,c7,c8⟩:=dj.out.nine;have ce:=dj.out.lt;have wO:¬ ((20:Int)<(n:Int)):=ZO;go_wp2_with fail;go_loopw [90] (λ i j5=>∃ q:Nat,q<=n/\i = .int .i64 q/\Hid (Kept wr.heap.size wr j5)) (λ i _=>n-(intOf i).toNat)
    case atStart=>exact⟨0,ZO,rfl,ZH (ZKr _)⟩
    case round =>
     obtain⟨q,hq,rfl,gC⟩:=hrel;by_cases dy:q<n
     ·obtain⟨e,he⟩:∃ e,events[q]? = some e:=⟨_,ZX (by rw[fw];exact dy)⟩;have mv:=ZY he;have dM:=ZH (H.out.events e mv);have ig:=iq.out.below gC.out.below;obtain⟨bk,off,rfl,cQ,e0,e1,e2,e3,e4,e5,e6,e7,e8,e9,iJ,ja⟩:=ig.at_ he;have hx:=ZBn wr 89 (evArr e);obtain⟨x0,x1,x2,x3,x4,x5,x6,x7,x8,x9,eE,eG⟩:=hx.ae;have ka:=(dj.out.ob gC.out.below);obtain⟨HX,qN,gU⟩:=ZH3 hx (ka.alloc (.cells (evArr e) 89)) (gC.out.alloc (.cells (evArr e) 89));clear ig he mv hx ka;go_wp2_with fail;refine(ZeA e _ dM.out).mono ?_;rintro _ w5 ⟨rfl,dw⟩;have hb:=qN.out.ob dw;have BE:=HX.out.ob dw;obtain⟨b0,b1,_⟩:=hb.nine;have y0:=BE.cell 0;have rD:=hb.lt;have gp:=BE.lt;have fi:=ZH (gU.out.step dw);clear hb BE dw x0 x1 x2 x3 x4 x5 x6 x7 x8 x9 eE eG;go_wp2
      go_roundw
      case rel=>exact⟨q+1,ZO,ZN,fi⟩
      case measure=>simp[intOf];omega
     ·obtain rfl:q=n:=ZO;go_wp2
      go_ret;exact⟨rfl,(cC.out.trans gC.out cC.out.le).below⟩
 ·have cX:upto=0:=H.out.upto0 ZM;have kd:events=[]:=H.out.events0 ZM ZM;subst cX kd;obtain rfl:n=0:=fw.symm;rw[show Za8 5 = .agg #[.bool false,.bool false,.bool true] from rfl];obtain⟨c0,c1,c2,c3,c4,c5,c6,c7,c8⟩:=cL.out.nine;have ce:=cL.out.lt;go_wp2_with fail;refine(ZbB 0 ZO _).mono ?_;rintro _ w2 ⟨rfl,bW⟩;have cJ:=(cE.out.alloc (.cells #[.bool false,.bool false,.bool true] 225)).step bW;have dd:=(cL.out.alloc (.cells #[.bool false,.bool false,.bool true] 225)).ob bW;have mq:=(dV.out.below ((ZW w1.heap.size w1).alloc (ZL _) (.cells #[.bool false,.bool false,.bool true] 225))).below bW;have jO:=(ZBn w1 225 #[.bool false,.bool false,.bool true]).ob bW;obtain⟨d0,d1,d2⟩:=jO.three;have gp:=jO.lt;obtain⟨cr,cH,eP⟩:=ZH3 cJ dd mq;clear cJ dd mq jO bW c0 c1 c2 c3 c4 c5 c6 c7 c8 ce;obtain⟨c0,c1,c2,c3,c4,c5,c6,c7,c8⟩:=cH.out.nine;have ce:=cH.out.lt;go_wp2_with fail;clear d0 d1 d2 gp;go_loopw [6,65] (λ _ i wr=>∃ k:Nat,k<=5/\i = .int .i64 k/\Hid (Kept w2.heap.size w2 wr)) (λ _ i _=>5-(intOf i).toNat)
  case atStart=>exact⟨0,ZO,rfl,ZH (ZKr _)⟩
  case round =>
   obtain⟨k,hk,rfl,db⟩:=hrel;by_cases ef:k<5
   ·have jC:(k:Int)<5:=ZO;have jR:=λ w=>Zah clock k ef w
    go_wp2_with fail;refine(ZbB (clock.get k) (H.out.clock k) _).mono ?_;rintro _ w3 ⟨rfl,bZ⟩;have cC:=ZH (db.out.step bZ);clear bZ;go_wp2
    go_roundw
    case rel=>exact⟨k+1,ZO,ZN,cC⟩
    case measure=>simp[intOf];omega
   ·obtain rfl:k=5:=ZO;have fg:=cH.out.ob db.out.below;have nL:=eP.out.below db.out.below;have cY:=cr.out.trans db.out cr.out.le;obtain⟨dj,iq,cC⟩:=ZH3 fg nL cY;clear fg nL cY db c0 c1 c2 c3 c4 c5 c6 c7 c8 ce;obtain⟨c0,c1,c2,c3,c4,c5,c6,c7,c8⟩:=dj.out.nine;have ce:=dj.out.lt;have wO:¬ ((20:Int)<(0:Int)):=ZO;go_wp2_with fail;go_loopw [90] (λ i j5=>∃ q:Nat,q<=0/\i = .int .i64 q/\Hid (Kept wr.heap.size wr j5)) (λ i _=>0-(intOf i).toNat)
    case atStart=>exact⟨0,ZO,rfl,ZH (ZKr _)⟩
    case round =>
     obtain⟨q,hq,rfl,gC⟩:=hrel;by_cases dy:q<0
     ·omega
     ·obtain rfl:q=0:=ZO;go_wp2
      go_ret;exact⟨rfl,(cC.out.trans gC.out cC.out.le).below⟩
def Zg(l:List Ev):List Nat:=l.flatMap evBytes
theorem Zcj{l:List Ev}{q:Nat}{e:Ev}(h:l[q]? = some e):Zg (l.take (q+1))=Zg (l.take q)++evBytes e:=by
 rw[List.take_add_one,h];simp[Zg]
theorem ZbC:∀ (l:List Ev),(∀ e∈l,e.Ok)->(Zg l).length<=60*l.length
 | [],_=>ZL _
 | e::l,h=>by
  have h1:=Zcz (h e ZM);have h2:=ZbC l (λ x hx=>h x (by simp[hx]));have e1:Zg (e::l)=evBytes e++Zg l:=rfl;rw[e1,ZI,List.length_cons];omega
theorem Zec:∀ (l:List Ev),(∀ e∈l,e.Ok)->∀ x∈Zg l,x<256
 | [],_,x,hx=>by simp[Zg] at hx
 | e::l,h,x,hx=>by
  have e1:Zg (e::l)=evBytes e++Zg l:=rfl;rw[e1,List.mem_append] at hx;rcases hx with hx | hx
  ·exact Zku (h e ZM) x hx
  ·exact Zec l (λ x hx=>h x (by simp[hx])) x hx
def Zw(c:Clk):Nat->List Nat
 | 0=>[]
 | k+1=>Zw c k++Zd (c.get k)
theorem ZdL{c:Clk}(h:∀ i,c.get i<=1048576):∀ k,(Zw c k).length<=3*k
 | 0=>ZL _
 | k+1=>by
  have:=ZdL h k;have h1:=Z3 2 (c.get k) (by have:=h k;omega);simp only[Zw,ZI];omega
theorem Zfu(c:Clk):∀ k,∀ x∈Zw c k,x<256
 | 0,x,h=>by simp[Zw] at h
 | k+1,x,h=>by
  simp only[Zw,List.mem_append] at h;rcases h with h | h
  ·exact Zfu c k x h
  ·exact Zay _ x h
def Zad(f:Frm):List Nat:=[f.kind,f.r]++(if f.kind=1∨f.kind=4 then f.events.length::Zg f.events else if f.kind=2 then Zd f.upto else Zw f.clock 5)
def Zk(f:Frm):List Nat:=Zau (Zd (Zad f).length++Zad f)
theorem Za4{f:Frm}(h:f.Ok):∀ x∈Zad f,x<256:=by
 have h1:=h.kind5;have h2:=h.r;have h3:=h.len;intro x hx;unfold Zad at hx;rw[List.mem_append] at hx;rcases hx with hx | hx
 ·simp at hx;omega
 ·split at hx
  ·rw[List.mem_cons] at hx;rcases hx with hx | hx
   ·omega
   ·exact Zec _ h.events x hx
  ·split at hx
   ·exact Zay _ x hx
   ·exact Zfu _ _ x hx
theorem Zbp{f:Frm}(h:f.Ok):(Zad f).length<=1300:=by
 have h1:=ZbC _ h.events;have h2:=Z3 2 f.upto (by have:=h.upto;omega);have h3:=ZdL h.clock 5;have h4:=h.len;unfold Zad;rw[ZI];split
 ·simp;omega
 ·split <;> simp <;> omega
theorem ZcL(W:World)(x y:Nat):(W.alloc (.cells #[.int .u8 (x:Int),.int .u8 (y:Int)] 5)).ownsRow W.heap.size 5 1 (.slice (some ⟨W.heap.size,0,none⟩) 2 2) [x,y].length (cells [x,y]) :=
 ⟨rfl,.inr ⟨W.heap.size,2,#[.int .u8 x,.int .u8 y],rfl,ZL _,ZBn W 5 _,ZL _,by unfold maxLen;omega,rfl,rfl⟩⟩
theorem Znx{f:Frm}(h:f.Ok)(dF:f.kind=2){a:Option Addr}{n cap:Nat}{w:World}(hs:EvSl w a n cap f.events):Calls prog 74 #[Z8 f (.slice a n cap)] w λ r w'=>∃ v,r = .returned (.tuple #[v,.int .i64 0])/\w'.ownsRow w.heap.size 5 1 v (Zk f).length (cells (Zk f))/\Below w.heap.size w w':=by
 have cI:=Za4 h;have cQ:=Zbp h;have eO:=h;obtain⟨kind,r,upto,clock,events⟩:=f;simp only[] at dF hs;subst dF;obtain⟨LL,fM⟩:∃ LL,LL=Zad ⟨2,r,upto,clock,events⟩:=⟨_,rfl⟩;rw[←fM] at cI cQ;have cA:=(ZKr w).alloc (.cells (Za ⟨2,r,upto,clock,events⟩ (.slice a n cap)) 158);have cD:=ZBn w 158 (Za ⟨2,r,upto,clock,events⟩ (.slice a n cap));have fx:=hs.below cA.below;have hr:=h.r;have dJ:=h.upto;have hlen:=h.len;have fw:=hs.2.2.1;have eb:=h.clock;simp only[] at hr dJ hlen eb;have dl:IntKind.u8.wrap (r:Int)=(r:Int):=by rw[IntKind.wrap_u8];omega
 obtain⟨i0,hi,cM,cG,cK⟩:=info_parts ZaA;obtain⟨c0,c1,c2,c3,c4,c5,c6,c7,c8⟩:=cD.nine;have ce:=cD.lt;obtain⟨H,df,di,ei,md,gx,gv⟩:=ZH7 eO cA cD fx eb cI fM;clear h eO cA cD fx hs eb cI fM;go_enter func74,ntmps74;go_wp2_with fail;refine(Zex H.out ei.out).mono ?_;rintro _ w1 ⟨rfl,bS⟩;have cE:=ZH (df.out.step bS);have cW:=di.out.ob bS;have dV:=ZH (ei.out.below bS);clear c0 c1 c2 c3 c4 c5 c6 c7 c8 ce;obtain⟨c0,c1,c2,c3,c4,c5,c6,c7,c8⟩:=cW.nine;have ce:=cW.lt;have cL:=ZH cW;clear cW bS df di ei;go_wp2_with fail;refine(Zci 2 ZO ZO _).mono ?_;rintro _ w2 ⟨rfl,bW⟩;rw[show Za8 2 = .agg #[.bool false,.bool true,.bool false] from rfl];have cr:=ZH (cE.out.step bW);have dd:=cL.out.ob bW;have eP:=ZH (dV.out.below bW);clear c0 c1 c2 c3 c4 c5 c6 c7 c8 ce;obtain⟨c0,c1,c2,c3,c4,c5,c6,c7,c8⟩:=dd.nine;have ce:=dd.lt;obtain⟨Ad,gU⟩:=ZH2 ((ZBn w2 225 #[.bool false,.bool true,.bool false]).alloc (.cells #[.int .u8 (2:Nat),.int .u8 (r:Int)] 5)) (((ZKr w2).alloc (.cells #[.bool false,.bool true,.bool false] 225)).alloc (.cells #[.int .u8 (2:Nat),.int .u8 (r:Int)] 5));have jp:=Zi (ZcL (w2.alloc (.cells #[.bool false,.bool true,.bool false] 225)) 2 r) (show w2.heap.size<=_ by simp);rw[show(w2.alloc (.cells #[.bool false,.bool true,.bool false] 225)).heap.size=w2.heap.size+1 by simp] at jp;obtain⟨cH,jH⟩:=ZH2 dd jp;clear dd jp bW cE cL dV;go_wp2_with fail;refine(Za0 upto _ ZO).mono ?_;rintro _ w3 ⟨v3,rfl,ew,bZ⟩;obtain⟨a3,mX,rfl,gi⟩:=Bytes.ab ew;obtain⟨Ka,CU,Ig⟩:=ZH3 (Ze jH.out bZ) (gU.out.step bZ) (Ad.out.ob bZ);have tU:=Z3 2 upto ZO;clear c0 c1 c2 c3 c4 c5 c6 c7 c8 ce;have KQ:=(cH.out.ob CU.out.below);obtain⟨c0,c1,c2,c3,c4,c5,c6,c7,c8⟩:=KQ.nine;have hltm:=KQ.lt;obtain⟨d0,d1,d2⟩:=Ig.out.three;have gp:=Ig.out.lt;clear KQ;have gw:=ZH gi;have gR:=CU.out.le;clear ew gi bZ
 go_wp2_with (first
  |(at_builtin
    refine Zc _ rfl (.tmp 58) (.tmp 62) _ rfl w2.heap.size 5 i0 _ 1 1 underlying106 hi cM cG cK rfl ZO (.slice (some ⟨w2.heap.size+1,0,none⟩) 2 2) 2 (cells [2,r]) rfl Ka.out w3.heap.size a3 (Zd upto).length mX (cells (Zd upto)) rfl gw.out.reads (Z2 _) ZF ZO gR ?_;intro v4 w4 cd dn _;rw[←Zq,show cells ([2,r]++Zd upto)=cells LL by rw[gv.out];rfl,show 2+(Zd upto).length=LL.length by rw[gv.out];simp[Zad];omega] at cd;have mr:=Ig.out.grown dn (Ne.symm (Zo Ka.out Ig.out ZJ));have HK:Hid (Kept w2.heap.size w2 w4):=ZH (⟨CU.out.below.grown dn CU.out.le (λ g hg=>(Zb Ka.out hg).1),ZT CU.out.le dn.size⟩);obtain⟨a4,NZ,rfl,_⟩:=Bytes.ab cd;obtain⟨e0,e1,e2⟩:=mr.three;have pS:=mr.lt;have HO:=ZH cd
    clear cd mr dn c0 c1 c2 c3 c4 c5 c6 c7 c8 d0 d1 d2))
 refine(Za0 LL.length w4 ZO).mono ?_;rintro _ wp ⟨vp,rfl,gu,eT⟩;obtain⟨ap,cp,rfl,_⟩:=Bytes.ab gu;have kP:=Ze HO.out eT;obtain⟨av,cv,wi,qm⟩:=Bytes.ab kP;injection wi with nb wj nd;subst nb nd;have gk:=ZH (HK.out.step eT);have fQ:=Z3 2 LL.length ZO;obtain⟨iY,sq⟩:=ZH2 gu qm;have dL:=eT.size;clear gu kP qm;go_wp2_with (at_builtin;refine Zc _ rfl (.tmp 80) (.tmp 81) _ rfl w4.heap.size 5 i0 _ 1 1 underlying106 hi cM cG cK rfl ZO (.slice ap (Zd LL.length).length cp) (Zd LL.length).length (cells (Zd LL.length)) rfl iY.out wp.heap.size _ LL.length _ (cells LL) rfl sq.out.reads (Z2 _) ZF ZO dL ?_;intro v7 w7 bX cN _)
 rw[←Zq] at bX;obtain⟨a7,vK,rfl,jq⟩:=Bytes.ab bX;have jw:Bytes w7 a7 ((Zd LL.length).length+LL.length) vK (Zd LL.length++LL):=jq;have fd:Hid (Kept w2.heap.size w2 w7):=ZH (⟨gk.out.below.grown cN gk.out.le (λ g hg=>ZT HK.out.le (Zb iY.out hg).1),ZT gk.out.le cN.size⟩);have iu:=ZH jw;clear bX jq jw cN eT dL;refine(Zcg iu.out (by intro x hx;rw[List.mem_append] at hx;rcases hx with hx | hx;exact Zay _ x hx;exact gx.out x hx) ZO).mono ?_;rintro _ w8 ⟨v8,rfl,ko,fS⟩;obtain⟨mj,mf⟩:=ZH2 ko (cr.out.trans (fd.out.step fS) cr.out.le);have nm:=ZT cr.out.le fd.out.le;clear ko fS;go_wp2_with fail;go_ret2
 refine⟨v8,rfl,?_,mf.out.below⟩;have kI:Zk ⟨2,r,upto,clock,events⟩=Zau (Zd LL.length++LL):=by
  unfold Zk;rw[gv.out]
 rw[kI];exact Zi mj.out nm
theorem Znw{f:Frm}(h:f.Ok)(dF:f.kind=1){a:Option Addr}{n cap:Nat}{w:World}(hs:EvSl w a n cap f.events):Calls prog 74 #[Z8 f (.slice a n cap)] w λ r w'=>∃ v,r = .returned (.tuple #[v,.int .i64 0])/\w'.ownsRow w.heap.size 5 1 v (Zk f).length (cells (Zk f))/\Below w.heap.size w w':=by
 have cI:=Za4 h;have cQ:=Zbp h;have eO:=h;obtain⟨kind,r,upto,clock,events⟩:=f;simp only[] at dF hs;subst dF;obtain⟨LL,fM⟩:∃ LL,LL=Zad ⟨1,r,upto,clock,events⟩:=⟨_,rfl⟩;rw[←fM] at cI cQ;have cA:=(ZKr w).alloc (.cells (Za ⟨1,r,upto,clock,events⟩ (.slice a n cap)) 158);have cD:=ZBn w 158 (Za ⟨1,r,upto,clock,events⟩ (.slice a n cap));have fx:=hs.below cA.below;have hr:=h.r;have dJ:=h.upto;have hlen:=h.len;have fw:=hs.2.2.1;have eb:=h.clock;simp only[] at hr dJ hlen eb;have dl:IntKind.u8.wrap (r:Int)=(r:Int):=by rw[IntKind.wrap_u8];omega
 obtain⟨i0,hi,cM,cG,cK⟩:=info_parts ZaA;obtain⟨c0,c1,c2,c3,c4,c5,c6,c7,c8⟩:=cD.nine;have ce:=cD.lt;obtain⟨H,df,di,ei,md,gx,gv⟩:=ZH7 eO cA cD fx eb cI fM;clear h eO cA cD fx hs eb cI fM;go_enter func74,ntmps74;go_wp2_with fail;refine(Zex H.out ei.out).mono ?_;rintro _ w1 ⟨rfl,bS⟩;have cE:=ZH (df.out.step bS);have cW:=di.out.ob bS;have dV:=ZH (ei.out.below bS);clear c0 c1 c2 c3 c4 c5 c6 c7 c8 ce;obtain⟨c0,c1,c2,c3,c4,c5,c6,c7,c8⟩:=cW.nine;have ce:=cW.lt;have cL:=ZH cW;clear cW bS df di ei;go_wp2_with fail;refine(Zci 1 ZO ZO _).mono ?_;rintro _ w2 ⟨rfl,bW⟩;rw[show Za8 1 = .agg #[.bool true,.bool false,.bool false] from rfl];have cr:=ZH (cE.out.step bW);have dd:=cL.out.ob bW;have eP:=ZH (dV.out.below bW);clear c0 c1 c2 c3 c4 c5 c6 c7 c8 ce;obtain⟨c0,c1,c2,c3,c4,c5,c6,c7,c8⟩:=dd.nine;have ce:=dd.lt;obtain⟨Ad,gU⟩:=ZH2 ((ZBn w2 225 #[.bool true,.bool false,.bool false]).alloc (.cells #[.int .u8 (1:Nat),.int .u8 (r:Int)] 5)) (((ZKr w2).alloc (.cells #[.bool true,.bool false,.bool false] 225)).alloc (.cells #[.int .u8 (1:Nat),.int .u8 (r:Int)] 5));have jp:=Zi (ZcL (w2.alloc (.cells #[.bool true,.bool false,.bool false] 225)) 1 r) (show w2.heap.size<=_ by simp);rw[show(w2.alloc (.cells #[.bool true,.bool false,.bool false] 225)).heap.size=w2.heap.size+1 by simp] at jp;obtain⟨cH,jH⟩:=ZH2 dd jp;clear dd jp bW cE cL dV;have o8:IntKind.u8.wrap (n:Int)=(n:Int):=by rw[IntKind.wrap_u8];omega
 obtain⟨vr,DF,mU⟩:=ZH3 (jH.out.alloc (.cells #[.int .u8 (n:Int)] 5)) (Ad.out.alloc (.cells #[.int .u8 (n:Int)] 5)) (gU.out.alloc (.cells #[.int .u8 (n:Int)] 5))
 go_wp2_with (first
  |(at_builtin
    refine Zc _ rfl (.tmp 31) (.tmp 36) _ rfl w2.heap.size 5 i0 _ 1 1 underlying106 hi cM cG cK rfl ZO (.slice (some ⟨w2.heap.size+1,0,none⟩) 2 2) 2 (cells [1,r]) rfl vr.out (w2.heap.size+1+1+1) (some ⟨w2.heap.size+1+1,0,none⟩) 1 1 [.int .u8 (n:Int)] rfl (Zha ZM _ _) (by intro u hu;simp at hu;subst hu;rfl) ZF ZO mU.out.le ?_;intro v4 w4 cd dn _;rw[Zdo,show [1,r]++[n]=[1,r,n] from rfl] at cd;have mr:=DF.out.grown dn (Ne.symm (Zo vr.out DF.out ZJ));have mI:Kept w2.heap.size w2 w4:=⟨mU.out.below.grown dn mU.out.le (λ g hg=>(Zb vr.out hg).1),ZT mU.out.le dn.size⟩;obtain⟨a4,NZ,rfl,_⟩:=Bytes.ab cd;have cz:=cH.out.ob mI.below;clear c0 c1 c2 c3 c4 c5 c6 c7 c8;obtain⟨c0,c1,c2,c3,c4,c5,c6,c7,c8⟩:=cz.nine;have pS:=cz.lt;obtain⟨HO,HK,HX⟩:=ZH3 cd mI mr
    clear cd mr mI dn cz))
 clear c0 c1 c2 c3 c4 c5 c6 c7 c8;go_loopw [6,9,10,41] (λ v _ _ i wr=>∃ q:Nat,q<=n/\i = .int .i64 q/\Hid (wr.ownsRow w2.heap.size 5 1 v ([1,r,n]++Zg (events.take q)).length (cells ([1,r,n]++Zg (events.take q))))/\Hid (Kept w2.heap.size w2 wr)/\Hid (Blk wr w2.heap.size 225 #[.bool true,.bool false,.bool false])) (λ _ _ _ i _=>n-(intOf i).toNat)
 case atStart=>exact⟨0,ZO,rfl,ZH (by simpa [Zg] using HO.out),HK,HX⟩
 case round =>
  clear HO HK HX;obtain⟨q,hq,rfl,HR,db,Ag⟩:=hrel;obtain⟨av,cv,rfl,_⟩:=Bytes.ab HR.out;have fC:(Zg (events.take q)).length<=60*20:=by
   have h1:=ZbC (events.take q) (λ e he=>H.out.events e (List.mem_of_mem_take he));have h2:(events.take q).length<=20:=by rw[ZV];omega
   omega
  obtain⟨M,hM⟩:∃ M,M=([1,r,n]++Zg (events.take q)).length:=⟨_,rfl⟩;have ti:M<=1300:=by rw[hM];simp;omega
  have fH:=cH.out.ob db.out.below;by_cases dy:q<n
  ·rw[←hM] at HR ⊢;have HM:=ZH hM;clear hM fC;obtain⟨e,he⟩:∃ e,events[q]? = some e:=⟨_,ZX (by rw[fw];exact dy)⟩;have dM:=ZH (H.out.events e (ZY he));have ig:=eP.out.below db.out.below;obtain⟨bk,off,rfl,cQ,e0,e1,e2,e3,e4,e5,e6,e7,e8,e9,iJ,ja⟩:=ig.at_ he;have hx:=ZBn wr 89 (evArr e);obtain⟨x0,x1,x2,x3,x4,x5,x6,x7,x8,x9,eE,eG⟩:=hx.ae;obtain⟨fq,sP,sC,Kt⟩:=ZH4 (Zcj he) (HR.out.alloc (.cells (evArr e) 89)) (db.out.alloc (.cells (evArr e) 89)) (Ag.out.alloc (.cells (evArr e) 89));have tD:=Zcz dM.out;clear ig he hx;go_wp2_with fail;refine(ZdN e _ dM.out).mono ?_;rintro _ w3 ⟨v3,rfl,ew,bZ⟩;obtain⟨a3,mX,rfl,gi⟩:=Bytes.ab ew;have ep:=ZH (Ze sP.out bZ);have cY:=sC.out.step bZ;have ia:=ZH (Kt.out.ob bZ);have gR:=cY.le;obtain⟨cC,gw⟩:=ZH2 cY gi;clear ew gi cY bZ e0 e1 e2 e3 e4 e5 e6 e7 e8 e9 iJ ja x0 x1 x2 x3 x4 x5 x6 x7 x8 x9 eE eG
   go_wp2_with (first
    |(at_builtin
      refine Zc _ rfl (.tmp 52) (.tmp 53) _ rfl w2.heap.size 5 i0 _ 1 1 underlying106 hi cM cG cK rfl ZO (.slice av M cv) M (cells ([1,r,n]++Zg (events.take q))) rfl ep.out w3.heap.size a3 (evBytes e).length mX (cells (evBytes e)) rfl gw.out.reads (Z2 _) ZF ZO gR ?_;intro v4 w4 cd dn _;rw[←Zq,HM.out,←ZI,List.append_assoc,←fq.out] at cd;have mr:=ia.out.grown dn (Ne.symm (Zo ep.out ia.out ZJ));have mI:Kept w2.heap.size w2 w4:=⟨cC.out.below.grown dn cC.out.le (λ g hg=>(Zb ep.out hg).1),ZT cC.out.le dn.size⟩;obtain⟨dt,cZ,i9⟩:=ZH3 cd mI mr
      clear cd mI dn mr))
   go_roundw
   case rel=>exact⟨q+1,ZO,ZN,dt,cZ,i9⟩
   case measure=>simp[intOf];omega
  ·obtain rfl:q=n:=ZO;rw[ZU ZO,show [1,r,q]++Zg events=LL by rw[gv.out];simp only[Zad];rw[if_pos ZM,fw];rfl] at HR ⊢;have HO:=HR;have HK:=db;obtain⟨d0,d1,d2⟩:=Ag.out.three;have gp:=Ag.out.lt;clear hM fC;go_wp2_with fail;clear d0 d1 d2;refine(Za0 LL.length wr ZO).mono ?_;rintro _ wp ⟨vp,rfl,gu,eT⟩;obtain⟨ap,cp,rfl,_⟩:=Bytes.ab gu;have kP:=Ze HO.out eT;obtain⟨av,cv,wi,qm⟩:=Bytes.ab kP;injection wi with nb wj nd;subst nb nd;have gk:=ZH (HK.out.step eT);have fQ:=Z3 2 LL.length ZO;obtain⟨iY,sq⟩:=ZH2 gu qm;have dL:=eT.size;clear gu kP qm;go_wp2_with (at_builtin;refine Zc _ rfl (.tmp 80) (.tmp 81) _ rfl wr.heap.size 5 i0 _ 1 1 underlying106 hi cM cG cK rfl ZO (.slice ap (Zd LL.length).length cp) (Zd LL.length).length (cells (Zd LL.length)) rfl iY.out wp.heap.size _ LL.length _ (cells LL) rfl sq.out.reads (Z2 _) ZF ZO dL ?_;intro v7 w7 bX cN _)
   rw[←Zq] at bX;obtain⟨a7,vK,rfl,jq⟩:=Bytes.ab bX;have jw:Bytes w7 a7 ((Zd LL.length).length+LL.length) vK (Zd LL.length++LL):=jq;have fd:Hid (Kept w2.heap.size w2 w7):=ZH (⟨gk.out.below.grown cN gk.out.le (λ g hg=>ZT HK.out.le (Zb iY.out hg).1),ZT gk.out.le cN.size⟩);have iu:=ZH jw;clear bX jq jw cN eT dL;refine(Zcg iu.out (by intro x hx;rw[List.mem_append] at hx;rcases hx with hx | hx;exact Zay _ x hx;exact gx.out x hx) ZO).mono ?_;rintro _ w8 ⟨v8,rfl,ko,fS⟩;obtain⟨mj,mf⟩:=ZH2 ko (cr.out.trans (fd.out.step fS) cr.out.le);have nm:=ZT cr.out.le fd.out.le;clear ko fS;go_wp2_with fail;go_ret2
   refine⟨v8,rfl,?_,mf.out.below⟩;have kI:Zk ⟨1,r,upto,clock,events⟩=Zau (Zd LL.length++LL):=by
    unfold Zk;rw[gv.out]
   rw[kI];exact Zi mj.out nm
theorem Znz{f:Frm}(h:f.Ok)(dF:f.kind=4){a:Option Addr}{n cap:Nat}{w:World}(hs:EvSl w a n cap f.events):Calls prog 74 #[Z8 f (.slice a n cap)] w λ r w'=>∃ v,r = .returned (.tuple #[v,.int .i64 0])/\w'.ownsRow w.heap.size 5 1 v (Zk f).length (cells (Zk f))/\Below w.heap.size w w':=by
 have cI:=Za4 h;have cQ:=Zbp h;have eO:=h;obtain⟨kind,r,upto,clock,events⟩:=f;simp only[] at dF hs;subst dF;obtain⟨LL,fM⟩:∃ LL,LL=Zad ⟨4,r,upto,clock,events⟩:=⟨_,rfl⟩;rw[←fM] at cI cQ;have cA:=(ZKr w).alloc (.cells (Za ⟨4,r,upto,clock,events⟩ (.slice a n cap)) 158);have cD:=ZBn w 158 (Za ⟨4,r,upto,clock,events⟩ (.slice a n cap));have fx:=hs.below cA.below;have hr:=h.r;have dJ:=h.upto;have hlen:=h.len;have fw:=hs.2.2.1;have eb:=h.clock;simp only[] at hr dJ hlen eb;have dl:IntKind.u8.wrap (r:Int)=(r:Int):=by rw[IntKind.wrap_u8];omega
 obtain⟨i0,hi,cM,cG,cK⟩:=info_parts ZaA;obtain⟨c0,c1,c2,c3,c4,c5,c6,c7,c8⟩:=cD.nine;have ce:=cD.lt;obtain⟨H,df,di,ei,md,gx,gv⟩:=ZH7 eO cA cD fx eb cI fM;clear h eO cA cD fx hs eb cI fM;go_enter func74,ntmps74;go_wp2_with fail;refine(Zex H.out ei.out).mono ?_;rintro _ w1 ⟨rfl,bS⟩;have cE:=ZH (df.out.step bS);have cW:=di.out.ob bS;have dV:=ZH (ei.out.below bS);clear c0 c1 c2 c3 c4 c5 c6 c7 c8 ce;obtain⟨c0,c1,c2,c3,c4,c5,c6,c7,c8⟩:=cW.nine;have ce:=cW.lt;have cL:=ZH cW;clear cW bS df di ei;go_wp2_with fail;refine(Zci 4 ZO ZO _).mono ?_;rintro _ w2 ⟨rfl,bW⟩;rw[show Za8 4 = .agg #[.bool true,.bool false,.bool false] from rfl];have cr:=ZH (cE.out.step bW);have dd:=cL.out.ob bW;have eP:=ZH (dV.out.below bW);clear c0 c1 c2 c3 c4 c5 c6 c7 c8 ce;obtain⟨c0,c1,c2,c3,c4,c5,c6,c7,c8⟩:=dd.nine;have ce:=dd.lt;obtain⟨Ad,gU⟩:=ZH2 ((ZBn w2 225 #[.bool true,.bool false,.bool false]).alloc (.cells #[.int .u8 (4:Nat),.int .u8 (r:Int)] 5)) (((ZKr w2).alloc (.cells #[.bool true,.bool false,.bool false] 225)).alloc (.cells #[.int .u8 (4:Nat),.int .u8 (r:Int)] 5));have jp:=Zi (ZcL (w2.alloc (.cells #[.bool true,.bool false,.bool false] 225)) 4 r) (show w2.heap.size<=_ by simp);rw[show(w2.alloc (.cells #[.bool true,.bool false,.bool false] 225)).heap.size=w2.heap.size+1 by simp] at jp;obtain⟨cH,jH⟩:=ZH2 dd jp;clear dd jp bW cE cL dV;have o8:IntKind.u8.wrap (n:Int)=(n:Int):=by rw[IntKind.wrap_u8];omega
 obtain⟨vr,DF,mU⟩:=ZH3 (jH.out.alloc (.cells #[.int .u8 (n:Int)] 5)) (Ad.out.alloc (.cells #[.int .u8 (n:Int)] 5)) (gU.out.alloc (.cells #[.int .u8 (n:Int)] 5))
 go_wp2_with (first
  |(at_builtin
    refine Zc _ rfl (.tmp 31) (.tmp 36) _ rfl w2.heap.size 5 i0 _ 1 1 underlying106 hi cM cG cK rfl ZO (.slice (some ⟨w2.heap.size+1,0,none⟩) 2 2) 2 (cells [4,r]) rfl vr.out (w2.heap.size+1+1+1) (some ⟨w2.heap.size+1+1,0,none⟩) 1 1 [.int .u8 (n:Int)] rfl (Zha ZM _ _) (by intro u hu;simp at hu;subst hu;rfl) ZF ZO mU.out.le ?_;intro v4 w4 cd dn _;rw[Zdo,show [4,r]++[n]=[4,r,n] from rfl] at cd;have mr:=DF.out.grown dn (Ne.symm (Zo vr.out DF.out ZJ));have mI:Kept w2.heap.size w2 w4:=⟨mU.out.below.grown dn mU.out.le (λ g hg=>(Zb vr.out hg).1),ZT mU.out.le dn.size⟩;obtain⟨a4,NZ,rfl,_⟩:=Bytes.ab cd;have cz:=cH.out.ob mI.below;clear c0 c1 c2 c3 c4 c5 c6 c7 c8;obtain⟨c0,c1,c2,c3,c4,c5,c6,c7,c8⟩:=cz.nine;have pS:=cz.lt;obtain⟨HO,HK,HX⟩:=ZH3 cd mI mr
    clear cd mr mI dn cz))
 clear c0 c1 c2 c3 c4 c5 c6 c7 c8;go_loopw [6,9,10,41] (λ v _ _ i wr=>∃ q:Nat,q<=n/\i = .int .i64 q/\Hid (wr.ownsRow w2.heap.size 5 1 v ([4,r,n]++Zg (events.take q)).length (cells ([4,r,n]++Zg (events.take q))))/\Hid (Kept w2.heap.size w2 wr)/\Hid (Blk wr w2.heap.size 225 #[.bool true,.bool false,.bool false])) (λ _ _ _ i _=>n-(intOf i).toNat)
 case atStart=>exact⟨0,ZO,rfl,ZH (by simpa [Zg] using HO.out),HK,HX⟩
 case round =>
  clear HO HK HX;obtain⟨q,hq,rfl,HR,db,Ag⟩:=hrel;obtain⟨av,cv,rfl,_⟩:=Bytes.ab HR.out;have fC:(Zg (events.take q)).length<=60*20:=by
   have h1:=ZbC (events.take q) (λ e he=>H.out.events e (List.mem_of_mem_take he));have h2:(events.take q).length<=20:=by rw[ZV];omega
   omega
  obtain⟨M,hM⟩:∃ M,M=([4,r,n]++Zg (events.take q)).length:=⟨_,rfl⟩;have ti:M<=1300:=by rw[hM];simp;omega
  have fH:=cH.out.ob db.out.below;by_cases dy:q<n
  ·rw[←hM] at HR ⊢;have HM:=ZH hM;clear hM fC;obtain⟨e,he⟩:∃ e,events[q]? = some e:=⟨_,ZX (by rw[fw];exact dy)⟩;have dM:=ZH (H.out.events e (ZY he));have ig:=eP.out.below db.out.below;obtain⟨bk,off,rfl,cQ,e0,e1,e2,e3,e4,e5,e6,e7,e8,e9,iJ,ja⟩:=ig.at_ he;have hx:=ZBn wr 89 (evArr e);obtain⟨x0,x1,x2,x3,x4,x5,x6,x7,x8,x9,eE,eG⟩:=hx.ae;obtain⟨fq,sP,sC,Kt⟩:=ZH4 (Zcj he) (HR.out.alloc (.cells (evArr e) 89)) (db.out.alloc (.cells (evArr e) 89)) (Ag.out.alloc (.cells (evArr e) 89));have tD:=Zcz dM.out;clear ig he hx;go_wp2_with fail;refine(ZdN e _ dM.out).mono ?_;rintro _ w3 ⟨v3,rfl,ew,bZ⟩;obtain⟨a3,mX,rfl,gi⟩:=Bytes.ab ew;have ep:=ZH (Ze sP.out bZ);have cY:=sC.out.step bZ;have ia:=ZH (Kt.out.ob bZ);have gR:=cY.le;obtain⟨cC,gw⟩:=ZH2 cY gi;clear ew gi cY bZ e0 e1 e2 e3 e4 e5 e6 e7 e8 e9 iJ ja x0 x1 x2 x3 x4 x5 x6 x7 x8 x9 eE eG
   go_wp2_with (first
    |(at_builtin
      refine Zc _ rfl (.tmp 52) (.tmp 53) _ rfl w2.heap.size 5 i0 _ 1 1 underlying106 hi cM cG cK rfl ZO (.slice av M cv) M (cells ([4,r,n]++Zg (events.take q))) rfl ep.out w3.heap.size a3 (evBytes e).length mX (cells (evBytes e)) rfl gw.out.reads (Z2 _) ZF ZO gR ?_;intro v4 w4 cd dn _;rw[←Zq,HM.out,←ZI,List.append_assoc,←fq.out] at cd;have mr:=ia.out.grown dn (Ne.symm (Zo ep.out ia.out ZJ));have mI:Kept w2.heap.size w2 w4:=⟨cC.out.below.grown dn cC.out.le (λ g hg=>(Zb ep.out hg).1),ZT cC.out.le dn.size⟩;obtain⟨dt,cZ,i9⟩:=ZH3 cd mI mr
      clear cd mI dn mr))
   go_roundw
   case rel=>exact⟨q+1,ZO,ZN,dt,cZ,i9⟩
   case measure=>simp[intOf];omega
  ·obtain rfl:q=n:=ZO;rw[ZU ZO,show [4,r,q]++Zg events=LL by rw[gv.out];simp only[Zad];rw[if_pos ZM,fw];rfl] at HR ⊢;have HO:=HR;have HK:=db;obtain⟨d0,d1,d2⟩:=Ag.out.three;have gp:=Ag.out.lt;clear hM fC;go_wp2_with fail;clear d0 d1 d2;refine(Za0 LL.length wr ZO).mono ?_;rintro _ wp ⟨vp,rfl,gu,eT⟩;obtain⟨ap,cp,rfl,_⟩:=Bytes.ab gu;have kP:=Ze HO.out eT;obtain⟨av,cv,wi,qm⟩:=Bytes.ab kP;injection wi with nb wj nd;subst nb nd;have gk:=ZH (HK.out.step eT);have fQ:=Z3 2 LL.length ZO;obtain⟨iY,sq⟩:=ZH2 gu qm;have dL:=eT.size;clear gu kP qm;go_wp2_with (at_builtin;refine Zc _ rfl (.tmp 80) (.tmp 81) _ rfl wr.heap.size 5 i0 _ 1 1 underlying106 hi cM cG cK rfl ZO (.slice ap (Zd LL.length).length cp) (Zd LL.length).length (cells (Zd LL.length)) rfl iY.out wp.heap.size _ LL.length _ (cells LL) rfl sq.out.reads (Z2 _) ZF ZO dL ?_;intro v7 w7 bX cN _)
   rw[←Zq] at bX;obtain⟨a7,vK,rfl,jq⟩:=Bytes.ab bX;have jw:Bytes w7 a7 ((Zd LL.length).length+LL.length) vK (Zd LL.length++LL):=jq;have fd:Hid (Kept w2.heap.size w2 w7):=ZH (⟨gk.out.below.grown cN gk.out.le (λ g hg=>ZT HK.out.le (Zb iY.out hg).1),ZT gk.out.le cN.size⟩);have iu:=ZH jw;clear bX jq jw cN eT dL;refine(Zcg iu.out (by intro x hx;rw[List.mem_append] at hx;rcases hx with hx | hx;exact Zay _ x hx;exact gx.out x hx) ZO).mono ?_;rintro _ w8 ⟨v8,rfl,ko,fS⟩;obtain⟨mj,mf⟩:=ZH2 ko (cr.out.trans (fd.out.step fS) cr.out.le);have nm:=ZT cr.out.le fd.out.le;clear ko fS;go_wp2_with fail;go_ret2
   refine⟨v8,rfl,?_,mf.out.below⟩;have kI:Zk ⟨4,r,upto,clock,events⟩=Zau (Zd LL.length++LL):=by
    unfold Zk;rw[gv.out]
   rw[kI];exact Zi mj.out nm
theorem Zny{f:Frm}(h:f.Ok)(dF:f.kind=3){a:Option Addr}{n cap:Nat}{w:World}(hs:EvSl w a n cap f.events):Calls prog 74 #[Z8 f (.slice a n cap)] w λ r w'=>∃ v,r = .returned (.tuple #[v,.int .i64 0])/\w'.ownsRow w.heap.size 5 1 v (Zk f).length (cells (Zk f))/\Below w.heap.size w w':=by
 have cI:=Za4 h;have cQ:=Zbp h;have eO:=h;obtain⟨kind,r,upto,clock,events⟩:=f;simp only[] at dF hs;subst dF;obtain⟨LL,fM⟩:∃ LL,LL=Zad ⟨3,r,upto,clock,events⟩:=⟨_,rfl⟩;rw[←fM] at cI cQ;have cA:=(ZKr w).alloc (.cells (Za ⟨3,r,upto,clock,events⟩ (.slice a n cap)) 158);have cD:=ZBn w 158 (Za ⟨3,r,upto,clock,events⟩ (.slice a n cap));have fx:=hs.below cA.below;have hr:=h.r;have dJ:=h.upto;have hlen:=h.len;have fw:=hs.2.2.1;have eb:=h.clock;simp only[] at hr dJ hlen eb;have dl:IntKind.u8.wrap (r:Int)=(r:Int):=by rw[IntKind.wrap_u8];omega
 obtain⟨i0,hi,cM,cG,cK⟩:=info_parts ZaA;obtain⟨c0,c1,c2,c3,c4,c5,c6,c7,c8⟩:=cD.nine;have ce:=cD.lt;obtain⟨H,df,di,ei,md,gx,gv⟩:=ZH7 eO cA cD fx eb cI fM;clear h eO cA cD fx hs eb cI fM;go_enter func74,ntmps74;go_wp2_with fail;refine(Zex H.out ei.out).mono ?_;rintro _ w1 ⟨rfl,bS⟩;have cE:=ZH (df.out.step bS);have cW:=di.out.ob bS;have dV:=ZH (ei.out.below bS);clear c0 c1 c2 c3 c4 c5 c6 c7 c8 ce;obtain⟨c0,c1,c2,c3,c4,c5,c6,c7,c8⟩:=cW.nine;have ce:=cW.lt;have cL:=ZH cW;clear cW bS df di ei;go_wp2_with fail;refine(Zci 3 ZO ZO _).mono ?_;rintro _ w2 ⟨rfl,bW⟩;rw[show Za8 3 = .agg #[.bool false,.bool false,.bool true] from rfl];have cr:=ZH (cE.out.step bW);have dd:=cL.out.ob bW;have eP:=ZH (dV.out.below bW);clear c0 c1 c2 c3 c4 c5 c6 c7 c8 ce;obtain⟨c0,c1,c2,c3,c4,c5,c6,c7,c8⟩:=dd.nine;have ce:=dd.lt;obtain⟨Ad,gU⟩:=ZH2 ((ZBn w2 225 #[.bool false,.bool false,.bool true]).alloc (.cells #[.int .u8 (3:Nat),.int .u8 (r:Int)] 5)) (((ZKr w2).alloc (.cells #[.bool false,.bool false,.bool true] 225)).alloc (.cells #[.int .u8 (3:Nat),.int .u8 (r:Int)] 5));have jp:=Zi (ZcL (w2.alloc (.cells #[.bool false,.bool false,.bool true] 225)) 3 r) (show w2.heap.size<=_ by simp);rw[show(w2.alloc (.cells #[.bool false,.bool false,.bool true] 225)).heap.size=w2.heap.size+1 by simp] at jp;obtain⟨cH,jH⟩:=ZH2 dd jp;clear dd jp bW cE cL dV;go_wp2_with fail;clear c0 c1 c2 c3 c4 c5 c6 c7 c8 ce;go_loopw [6,12,68] (λ v _ i wr=>∃ k:Nat,k<=5/\i = .int .i64 k/\Hid (wr.ownsRow w2.heap.size 5 1 v ([3,r]++Zw clock k).length (cells ([3,r]++Zw clock k)))/\Hid (Kept w2.heap.size w2 wr)) (λ _ _ i _=>5-(intOf i).toNat)
 case atStart=>exact⟨0,ZO,rfl,ZH (by simpa [Zw] using jH.out),gU⟩
 case round =>
  obtain⟨k,hk,rfl,HR,db⟩:=hrel;obtain⟨av,cv,rfl,_⟩:=Bytes.ab HR.out;have eX:=ZdL md.out k;by_cases ef:k<5
  ·have jC:(k:Int)<5:=ZO;have jR:=λ w=>Zah clock k ef w
   have eb:=md.out k;obtain⟨M,hM⟩:∃ M,M=([3,r]++Zw clock k).length:=⟨_,rfl⟩;have ti:M<=100:=by rw[hM];simp;omega
   rw[←hM] at HR ⊢;have HM:=ZH hM;clear hM eX;go_wp2_with fail;refine(Za0 (clock.get k) wr ZO).mono ?_;rintro _ w3 ⟨v3,rfl,ew,bZ⟩;obtain⟨a3,mX,rfl,gi⟩:=Bytes.ab ew;have ep:=ZH (Ze HR.out bZ);have cY:=db.out.step bZ;have tU:=Z3 2 (clock.get k) ZO;have gR:=cY.le;obtain⟨cC,gw⟩:=ZH2 cY gi;clear ew gi cY bZ
   go_wp2_with (first
    |(at_builtin
      refine Zc _ rfl (.tmp 71) (.tmp 74) _ rfl w2.heap.size 5 i0 _ 1 1 underlying106 hi cM cG cK rfl ZO (.slice av M cv) M (cells ([3,r]++Zw clock k)) rfl ep.out w3.heap.size a3 (Zd (clock.get k)).length mX (cells (Zd (clock.get k))) rfl gw.out.reads (Z2 _) ZF ZO gR ?_;intro v4 w4 cd dn _;rw[←Zq,HM.out,←ZI,List.append_assoc,show Zw clock k++Zd (clock.get k)=Zw clock (k+1) from rfl] at cd;have cZ:Hid (Kept w2.heap.size w2 w4):=ZH (⟨cC.out.below.grown dn cC.out.le (λ g hg=>(Zb ep.out hg).1),ZT cC.out.le dn.size⟩);have dt:=ZH cd
      clear cd dn))
   go_roundw
   case rel=>exact⟨k+1,ZO,ZN,dt,cZ⟩
   case measure=>simp[intOf];omega
  ·obtain rfl:k=5:=ZO;rw[show [3,r]++Zw clock 5=LL by rw[gv.out];rfl] at HR ⊢;have HO:=HR;have HK:=db;go_wp2_with fail;refine(Za0 LL.length wr ZO).mono ?_;rintro _ wp ⟨vp,rfl,gu,eT⟩;obtain⟨ap,cp,rfl,_⟩:=Bytes.ab gu;have kP:=Ze HO.out eT;obtain⟨av,cv,wi,qm⟩:=Bytes.ab kP;injection wi with nb wj nd;subst nb nd;have gk:=ZH (HK.out.step eT);have fQ:=Z3 2 LL.length ZO;obtain⟨iY,sq⟩:=ZH2 gu qm;have dL:=eT.size;clear gu kP qm;go_wp2_with (at_builtin;refine Zc _ rfl (.tmp 80) (.tmp 81) _ rfl wr.heap.size 5 i0 _ 1 1 underlying106 hi cM cG cK rfl ZO (.slice ap (Zd LL.length).length cp) (Zd LL.length).length (cells (Zd LL.length)) rfl iY.out wp.heap.size _ LL.length _ (cells LL) rfl sq.out.reads (Z2 _) ZF ZO dL ?_;intro v7 w7 bX cN _)
   rw[←Zq] at bX;obtain⟨a7,vK,rfl,jq⟩:=Bytes.ab bX;have jw:Bytes w7 a7 ((Zd LL.length).length+LL.length) vK (Zd LL.length++LL):=jq;have fd:Hid (Kept w2.heap.size w2 w7):=ZH (⟨gk.out.below.grown cN gk.out.le (λ g hg=>ZT HK.out.le (Zb iY.out hg).1),ZT gk.out.le cN.size⟩);have iu:=ZH jw;clear bX jq jw cN eT dL;refine(Zcg iu.out (by intro x hx;rw[List.mem_append] at hx;rcases hx with hx | hx;exact Zay _ x hx;exact gx.out x hx) ZO).mono ?_;rintro _ w8 ⟨v8,rfl,ko,fS⟩;obtain⟨mj,mf⟩:=ZH2 ko (cr.out.trans (fd.out.step fS) cr.out.le);have nm:=ZT cr.out.le fd.out.le;clear ko fS;go_wp2_with fail;go_ret2
   refine⟨v8,rfl,?_,mf.out.below⟩;have kI:Zk ⟨3,r,upto,clock,events⟩=Zau (Zd LL.length++LL):=by
    unfold Zk;rw[gv.out]
   rw[kI];exact Zi mj.out nm
theorem ZnA{f:Frm}(h:f.Ok)(dF:f.kind=5){a:Option Addr}{n cap:Nat}{w:World}(hs:EvSl w a n cap f.events):Calls prog 74 #[Z8 f (.slice a n cap)] w λ r w'=>∃ v,r = .returned (.tuple #[v,.int .i64 0])/\w'.ownsRow w.heap.size 5 1 v (Zk f).length (cells (Zk f))/\Below w.heap.size w w':=by
 have cI:=Za4 h;have cQ:=Zbp h;have eO:=h;obtain⟨kind,r,upto,clock,events⟩:=f;simp only[] at dF hs;subst dF;obtain⟨LL,fM⟩:∃ LL,LL=Zad ⟨5,r,upto,clock,events⟩:=⟨_,rfl⟩;rw[←fM] at cI cQ;have cA:=(ZKr w).alloc (.cells (Za ⟨5,r,upto,clock,events⟩ (.slice a n cap)) 158);have cD:=ZBn w 158 (Za ⟨5,r,upto,clock,events⟩ (.slice a n cap));have fx:=hs.below cA.below;have hr:=h.r;have dJ:=h.upto;have hlen:=h.len;have fw:=hs.2.2.1;have eb:=h.clock;simp only[] at hr dJ hlen eb;have dl:IntKind.u8.wrap (r:Int)=(r:Int):=by rw[IntKind.wrap_u8];omega
 obtain⟨i0,hi,cM,cG,cK⟩:=info_parts ZaA;obtain⟨c0,c1,c2,c3,c4,c5,c6,c7,c8⟩:=cD.nine;have ce:=cD.lt;obtain⟨H,df,di,ei,md,gx,gv⟩:=ZH7 eO cA cD fx eb cI fM;clear h eO cA cD fx hs eb cI fM;go_enter func74,ntmps74;go_wp2_with fail;refine(Zex H.out ei.out).mono ?_;rintro _ w1 ⟨rfl,bS⟩;have cE:=ZH (df.out.step bS);have cW:=di.out.ob bS;have dV:=ZH (ei.out.below bS);clear c0 c1 c2 c3 c4 c5 c6 c7 c8 ce;obtain⟨c0,c1,c2,c3,c4,c5,c6,c7,c8⟩:=cW.nine;have ce:=cW.lt;have cL:=ZH cW;clear cW bS df di ei;go_wp2_with fail;refine(Zci 5 ZO ZO _).mono ?_;rintro _ w2 ⟨rfl,bW⟩;rw[show Za8 5 = .agg #[.bool false,.bool false,.bool true] from rfl];have cr:=ZH (cE.out.step bW);have dd:=cL.out.ob bW;have eP:=ZH (dV.out.below bW);clear c0 c1 c2 c3 c4 c5 c6 c7 c8 ce;obtain⟨c0,c1,c2,c3,c4,c5,c6,c7,c8⟩:=dd.nine;have ce:=dd.lt;obtain⟨Ad,gU⟩:=ZH2 ((ZBn w2 225 #[.bool false,.bool false,.bool true]).alloc (.cells #[.int .u8 (5:Nat),.int .u8 (r:Int)] 5)) (((ZKr w2).alloc (.cells #[.bool false,.bool false,.bool true] 225)).alloc (.cells #[.int .u8 (5:Nat),.int .u8 (r:Int)] 5));have jp:=Zi (ZcL (w2.alloc (.cells #[.bool false,.bool false,.bool true] 225)) 5 r) (show w2.heap.size<=_ by simp);rw[show(w2.alloc (.cells #[.bool false,.bool false,.bool true] 225)).heap.size=w2.heap.size+1 by simp] at jp;obtain⟨cH,jH⟩:=ZH2 dd jp;clear dd jp bW cE cL dV;go_wp2_with fail;clear c0 c1 c2 c3 c4 c5 c6 c7 c8 ce;go_loopw [6,12,68] (λ v _ i wr=>∃ k:Nat,k<=5/\i = .int .i64 k/\Hid (wr.ownsRow w2.heap.size 5 1 v ([5,r]++Zw clock k).length (cells ([5,r]++Zw clock k)))/\Hid (Kept w2.heap.size w2 wr)) (λ _ _ i _=>5-(intOf i).toNat)
 case atStart=>exact⟨0,ZO,rfl,ZH (by simpa [Zw] using jH.out),gU⟩
 case round =>
  obtain⟨k,hk,rfl,HR,db⟩:=hrel;obtain⟨av,cv,rfl,_⟩:=Bytes.ab HR.out;have eX:=ZdL md.out k;by_cases ef:k<5
  ·have jC:(k:Int)<5:=ZO;have jR:=λ w=>Zah clock k ef w
   have eb:=md.out k;obtain⟨M,hM⟩:∃ M,M=([5,r]++Zw clock k).length:=⟨_,rfl⟩;have ti:M<=100:=by rw[hM];simp;omega
   rw[←hM] at HR ⊢;have HM:=ZH hM;clear hM eX;go_wp2_with fail;refine(Za0 (clock.get k) wr ZO).mono ?_;rintro _ w3 ⟨v3,rfl,ew,bZ⟩;obtain⟨a3,mX,rfl,gi⟩:=Bytes.ab ew;have ep:=ZH (Ze HR.out bZ);have cY:=db.out.step bZ;have tU:=Z3 2 (clock.get k) ZO;have gR:=cY.le;obtain⟨cC,gw⟩:=ZH2 cY gi;clear ew gi cY bZ
   go_wp2_with (first
    |(at_builtin
      refine Zc _ rfl (.tmp 71) (.tmp 74) _ rfl w2.heap.size 5 i0 _ 1 1 underlying106 hi cM cG cK rfl ZO (.slice av M cv) M (cells ([5,r]++Zw clock k)) rfl ep.out w3.heap.size a3 (Zd (clock.get k)).length mX (cells (Zd (clock.get k))) rfl gw.out.reads (Z2 _) ZF ZO gR ?_;intro v4 w4 cd dn _;rw[←Zq,HM.out,←ZI,List.append_assoc,show Zw clock k++Zd (clock.get k)=Zw clock (k+1) from rfl] at cd;have cZ:Hid (Kept w2.heap.size w2 w4):=ZH (⟨cC.out.below.grown dn cC.out.le (λ g hg=>(Zb ep.out hg).1),ZT cC.out.le dn.size⟩);have dt:=ZH cd
      clear cd dn))
   go_roundw
   case rel=>exact⟨k+1,ZO,ZN,dt,cZ⟩
   case measure=>simp[intOf];omega
  ·obtain rfl:k=5:=ZO;rw[show [5,r]++Zw clock 5=LL by rw[gv.out];rfl] at HR ⊢;have HO:=HR;have HK:=db;go_wp2_with fail;refine(Za0 LL.length wr ZO).mono ?_;rintro _ wp ⟨vp,rfl,gu,eT⟩;obtain⟨ap,cp,rfl,_⟩:=Bytes.ab gu;have kP:=Ze HO.out eT;obtain⟨av,cv,wi,qm⟩:=Bytes.ab kP;injection wi with nb wj nd;subst nb nd;have gk:=ZH (HK.out.step eT);have fQ:=Z3 2 LL.length ZO;obtain⟨iY,sq⟩:=ZH2 gu qm;have dL:=eT.size;clear gu kP qm;go_wp2_with (at_builtin;refine Zc _ rfl (.tmp 80) (.tmp 81) _ rfl wr.heap.size 5 i0 _ 1 1 underlying106 hi cM cG cK rfl ZO (.slice ap (Zd LL.length).length cp) (Zd LL.length).length (cells (Zd LL.length)) rfl iY.out wp.heap.size _ LL.length _ (cells LL) rfl sq.out.reads (Z2 _) ZF ZO dL ?_;intro v7 w7 bX cN _)
   rw[←Zq] at bX;obtain⟨a7,vK,rfl,jq⟩:=Bytes.ab bX;have jw:Bytes w7 a7 ((Zd LL.length).length+LL.length) vK (Zd LL.length++LL):=jq;have fd:Hid (Kept w2.heap.size w2 w7):=ZH (⟨gk.out.below.grown cN gk.out.le (λ g hg=>ZT HK.out.le (Zb iY.out hg).1),ZT gk.out.le cN.size⟩);have iu:=ZH jw;clear bX jq jw cN eT dL;refine(Zcg iu.out (by intro x hx;rw[List.mem_append] at hx;rcases hx with hx | hx;exact Zay _ x hx;exact gx.out x hx) ZO).mono ?_;rintro _ w8 ⟨v8,rfl,ko,fS⟩;obtain⟨mj,mf⟩:=ZH2 ko (cr.out.trans (fd.out.step fS) cr.out.le);have nm:=ZT cr.out.le fd.out.le;clear ko fS;go_wp2_with fail;go_ret2
   refine⟨v8,rfl,?_,mf.out.below⟩;have kI:Zk ⟨5,r,upto,clock,events⟩=Zau (Zd LL.length++LL):=by
    unfold Zk;rw[gv.out]
   rw[kI];exact Zi mj.out nm
end Go.Proofs.YtjkfognelhiepaaGreat
