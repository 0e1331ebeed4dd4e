import Derived.Test.YtjkfognelhiepaaGreatC14
import Derived.ScopeJumps
import Derived.WalkMore
namespace Go.Proofs.YtjkfognelhiepaaGreat
open Go.RowKit _root_.Go.Proofs.Tryz
set_option maxRecDepth 100000
set_option maxHeartbeats 8000000
theorem Zpu{f:Frm}(h:RecOk f)(dF:f.kind=1){a:Option Addr}{n cap:Nat}{w:World}(hb:Bytes w a n cap (Zz f)):
  Calls prog 172 #[.slice a n cap] w λ r w'=>∃ v,r = .returned (.tuple #[Z8 f v,.bool true])/\w'.ownsRow w.heap.size 89 12 v f.events.length (evCells f.events)/\Below w.heap.size w w':=by
 have cI:=ZaF h;have cQ:=Za6 h;have hr:=h.r;have dJ:=h.upto;have fC:=h.len;have eb:=h.clock;obtain⟨kind,r,upto,clock,events⟩:=f;simp only[] at dF hr dJ fC eb;subst dF;have H:=ZH h;clear h;have dW:clock=ZCz:=H.out.clock0 ZM;have cX:upto=0:=H.out.upto0 ZM ZM;subst dW cX;obtain⟨T,hT⟩:∃ T,T=(Zd events.length++(Zg events++[])):=⟨_,rfl⟩;have dZ:Zz ⟨1,r,0,ZCz,events⟩=1::r::T:=by rw[hT];simp[Zz,upK,clK,evK]
 rw[dZ] at hb cI cQ;have ux:1<=T.length:=by
  rw[hT];first|(have:=Z4 upto;rw[ZI];omega)|(have:=Z4 events.length;rw[ZI];omega)|(have:=Z4 (clock.get 4);simp only[Zw,ZI];omega)
 have eR:=hb.len;have kj:2+T.length=n:=by
  rw[←eR];simp only[List.length_cons];omega
 have uy:T.length<=60098:=by simp only[List.length_cons] at cQ;omega
 obtain⟨b,off,rfl,bY,bU⟩:=hb.pos ZO;have fZ:=hb.1;have k0:=bU 0 ZO;have k1:=bU 1 ZO;rw[Nat.add_zero,show(1::r::T).getD 0 0=1 from rfl] at k0;rw[show(1::r::T).getD 1 0=r from rfl] at k1;have cU:=hb.rest (k:=2) ZO;rw[if_neg ZO,show(1::r::T).drop 2=T from rfl] at cU;have er:Hid (∀ x∈T,x<256):=ZH (λ x hx=>cI x (List.mem_cons_of_mem _ (List.mem_cons_of_mem _ hx)));obtain⟨ga,HT⟩:=ZH2 cU hT;have km:¬ ((n:Int)<2):=ZO;have tO:(0:Int)<(n:Int):=ZO;have tP:0<n:=ZO;have tQ:1<n:=ZO;have kL:(1:Int)<(n:Int):=ZO;have kM:(2:Int)<=(n:Int):=ZO;have kN:(2:Int)<=(cap:Int):=ZO;have nD:IntKind.i64.wrap (r:Int)=(r:Int):=by rw[IntKind.wrap_i64];omega
 have uf:IntKind.i64.wrap (1:Int)=1:=by rw[IntKind.wrap_i64];omega
 have jx:¬ (cap=2):=ZO;obtain⟨w1,cV⟩:∃ w1,w1=w.alloc (.cells (Za ⟨0,0,0,ZCz,[]⟩ (.slice none 0 0)) 150):=⟨_,rfl⟩;have eA:Kept w.heap.size w w1:=by rw[cV];exact(ZKr w).alloc _
 have gb:Blk w1 w.heap.size 150 (Za ⟨0,0,0,ZCz,[]⟩ (.slice none 0 0)):=by rw[cV];exact ZBn _ _ _
 have ms:b<w1.heap.size:=ZR bY eA.le;have mB:w1.cell? ⟨b,off,none⟩=some (.int .u8 ((1:Nat):Int)):=by rw[eA.cells b _ bY];exact k0
 have mC:w1.cell? ⟨b,off+1,none⟩=some (.int .u8 (r:Int)):=by rw[eA.cells b _ bY];exact k1
 obtain⟨cE,ez,ft⟩:=ZH3 eA gb cV;clear hb cI cQ eR bU cU hT dZ eA gb cV k0 k1 eb;go_enter func172,ntmps172;go_wp2_with fail;change Code.wp _ _ _ _ (w.alloc (.cells (Za ⟨0,0,0,ZCz,[]⟩ (.slice none 0 0)) 150));rw[←ft.out];refine ZSi [(0,3),(1,3),(2,0),(3,3),(4,3),(5,3),(6,0),(7,3),(8,3),(9,1),(10,2)] λ bR=>?_
 repeat((first | refine ZSa ?_ | refine ZSb ?_ | refine ZSc ?_);simp only[Act.put,ZA,ZB,ZC])
 refine ZSd λ K hK=>?_
 go_simp;refine hK.out (λ w'=>Kept w1.heap.size w1 w') _ _ (λ _ h=>h) (bR.alloc _) (λ bT=>?_);clear hK K bR;repeat((first | refine ZSa ?_ | refine ZSb ?_ | refine ZSc ?_);simp only[Act.put,ZA,ZB,ZC])
 refine ZSe λ K hK=>?_
 go_simp;refine hK.out _ _ ?_;clear hK K;refine ZSf ?_;obtain⟨w2,cS⟩:∃ w2,w2=(w1.alloc (.cells (Za ⟨1,r,0,ZCz,[]⟩ (.slice none 0 0)) 150)).drew:=⟨_,rfl⟩;change Exit.then _ _ Exit.normal _ ((w1.alloc (.cells (Za ⟨1,r,0,ZCz,[]⟩ (.slice none 0 0)) 150)).drew);rw[←cS];have fu:Blk w2 w1.heap.size 150 (Za ⟨1,r,0,ZCz,[]⟩ (.slice none 0 0)):=by rw[cS];exact(ZBn _ _ _).drew
 have gm:Kept w.heap.size w w2:=by rw[cS];exact(cE.out.alloc _).drew
 have gI:Blk w2 w.heap.size 150 (Za ⟨0,0,0,ZCz,[]⟩ (.slice none 0 0)):=by rw[cS];exact(ez.out.alloc _).drew
 have nP:w.heap.size<w1.heap.size:=ez.out.lt;obtain⟨c0,c1,c2,c3,c4,c5,c6,c7,c8⟩:=fu.nine;have eY:=fu.lt;obtain⟨iw,cr,eU⟩:=ZH3 fu gm gI;clear fu gm gI cS bT cE ez ft mB mC;generalize w1.heap.size=G at *;have l6:w.heap.size≠G:=ZO;have mp:w.heap.size<=G:=ZO;go_wp2_with fail;refine(ZaJ 1 ZO ZO _).mono ?_;rintro _ w3 ⟨rfl,bZ⟩;rw[show upK 1=false from rfl,show evK 1=true from rfl,show clK 1=false from rfl];obtain⟨HF,HR,HK⟩:=ZH3 (iw.out.ob bZ) (eU.out.ob bZ) (cr.out.step bZ);have i5:=HF.out.lt;clear bZ c0 c1 c2 c3 c4 c5 c6 c7 c8 eY iw cr eU;go_wp2_with fail;refine(Zgk (ga.out.kept HK.out.below (ZL _)) (er.out) ZO events H.out.events fC [] HT.out).mono ?_;rintro _ w6 ⟨VV,rfl,nC,eu⟩;have lj:=HF.out.ob eu;obtain⟨c0,c1,c2,c3,c4,c5,c6,c7,c8⟩:=lj.nine;have f8:=lj.frozen 8;have tK:=lj.lt;obtain⟨mG,me⟩:=ZH2 (HR.out.ob eu) (HK.out.step eu);have lK:=HF.out.lt;obtain⟨BB,oe⟩:∃ BB,BB=w3.heap.size:=⟨_,rfl⟩;rw[←oe] at nC lK;obtain⟨av,cv,rfl,_⟩:=EvSl.ab nC;obtain⟨qd,sU⟩:=ZH2 lj nC;clear lj eu nC oe HF HR HK;obtain⟨W7,iK⟩:∃ W7,W7=w6.setCell ⟨G,8,none⟩ (.slice av events.length cv):=⟨_,rfl⟩;have HF:Hid (Blk W7 G 150 (Za ⟨1,r,0,ZCz,events⟩ (.slice av events.length cv))):=ZH (by rw[iK];exact qd.out.ai 8 _);have HR:Hid (Blk W7 w.heap.size 150 (Za ⟨0,0,0,ZCz,[]⟩ (.slice none 0 0))):=ZH (by rw[iK];exact mG.out.far l6 _);have HK:Hid (Kept w.heap.size w W7):=ZH (by rw[iK];exact me.out.setCell (by show w.heap.size<=G;omega) _)
 have sV:Hid (W7.ownsRow BB 89 12 (.slice av events.length cv) events.length (evCells events)):=ZH (by
  rw[iK]
  exact Zh sU.out (λ g hg _=>Below.heap_setCell _ _ _ _ (λ e=>by have:=Zb sU.out hg;have e:g=G:=e;omega)))
 have ri:=ZH iK;clear iK
 go_wp2_with (first
  |(refine wpList_load_row rfl 150 (.tmp 4) rfl G rfl 150 (Za ⟨1,r,0,ZCz,events⟩ (.slice av events.length cv)) (0,0) _ (by rw[←ri.out];exact HF.out) underlying150 rfl (Zat _ _) ?_
    rw[←ri.out])
  |(refine wpList_store_row rfl 150 (.tmp 2) (.tmp 72) rfl w.heap.size (Za ⟨1,r,0,ZCz,events⟩ (.slice av events.length cv)) rfl rfl 150 (Za ⟨0,0,0,ZCz,[]⟩ (.slice none 0 0)) HR.out (Zat _ _) rfl (Zbc _ _ _ _) ?_))
 refine bodyPost_ret (Zn rfl rfl rfl (run_loadVar_row _ _ _ _ _ _ _ (HR.out.row _) underlying150 rfl (Zat _ _))) rfl ?_;exact⟨(.slice av events.length cv),rfl,Zi (Zh sV.out (λ g hg _=>setRow_other _ _ _ _ (by have:=Zb sV.out hg;omega))) ZO,(HK.out.row (ZL _) _).below⟩
theorem Zpv{f:Frm}(h:RecOk f)(dF:f.kind=2){a:Option Addr}{n cap:Nat}{w:World}(hb:Bytes w a n cap (Zz f)):
  Calls prog 172 #[.slice a n cap] w λ r w'=>∃ v,r = .returned (.tuple #[Z8 f v,.bool true])/\w'.ownsRow w.heap.size 89 12 v f.events.length (evCells f.events)/\Below w.heap.size w w':=by
 have cI:=ZaF h;have cQ:=Za6 h;have hr:=h.r;have dJ:=h.upto;have fC:=h.len;have eb:=h.clock;obtain⟨kind,r,upto,clock,events⟩:=f;simp only[] at dF hr dJ fC eb;subst dF;have H:=ZH h;clear h;have dW:clock=ZCz:=H.out.clock0 ZM;have cX:upto=0:=H.out.upto0 ZM ZM;subst dW cX;obtain⟨T,hT⟩:∃ T,T=(Zd events.length++(Zg events++[])):=⟨_,rfl⟩;have dZ:Zz ⟨2,r,0,ZCz,events⟩=2::r::T:=by rw[hT];simp[Zz,upK,clK,evK]
 rw[dZ] at hb cI cQ;have ux:1<=T.length:=by
  rw[hT];first|(have:=Z4 upto;rw[ZI];omega)|(have:=Z4 events.length;rw[ZI];omega)|(have:=Z4 (clock.get 4);simp only[Zw,ZI];omega)
 have eR:=hb.len;have kj:2+T.length=n:=by
  rw[←eR];simp only[List.length_cons];omega
 have uy:T.length<=60098:=by simp only[List.length_cons] at cQ;omega
 obtain⟨b,off,rfl,bY,bU⟩:=hb.pos ZO;have fZ:=hb.1;have k0:=bU 0 ZO;have k1:=bU 1 ZO;rw[Nat.add_zero,show(2::r::T).getD 0 0=2 from rfl] at k0;rw[show(2::r::T).getD 1 0=r from rfl] at k1;have cU:=hb.rest (k:=2) ZO;rw[if_neg ZO,show(2::r::T).drop 2=T from rfl] at cU;have er:Hid (∀ x∈T,x<256):=ZH (λ x hx=>cI x (List.mem_cons_of_mem _ (List.mem_cons_of_mem _ hx)));obtain⟨ga,HT⟩:=ZH2 cU hT;have km:¬ ((n:Int)<2):=ZO;have tO:(0:Int)<(n:Int):=ZO;have tP:0<n:=ZO;have tQ:1<n:=ZO;have kL:(1:Int)<(n:Int):=ZO;have kM:(2:Int)<=(n:Int):=ZO;have kN:(2:Int)<=(cap:Int):=ZO;have nD:IntKind.i64.wrap (r:Int)=(r:Int):=by rw[IntKind.wrap_i64];omega
 have uf:IntKind.i64.wrap (2:Int)=2:=by rw[IntKind.wrap_i64];omega
 have jx:¬ (cap=2):=ZO;obtain⟨w1,cV⟩:∃ w1,w1=w.alloc (.cells (Za ⟨0,0,0,ZCz,[]⟩ (.slice none 0 0)) 150):=⟨_,rfl⟩;have eA:Kept w.heap.size w w1:=by rw[cV];exact(ZKr w).alloc _
 have gb:Blk w1 w.heap.size 150 (Za ⟨0,0,0,ZCz,[]⟩ (.slice none 0 0)):=by rw[cV];exact ZBn _ _ _
 have ms:b<w1.heap.size:=ZR bY eA.le;have mB:w1.cell? ⟨b,off,none⟩=some (.int .u8 ((2:Nat):Int)):=by rw[eA.cells b _ bY];exact k0
 have mC:w1.cell? ⟨b,off+1,none⟩=some (.int .u8 (r:Int)):=by rw[eA.cells b _ bY];exact k1
 obtain⟨cE,ez,ft⟩:=ZH3 eA gb cV;clear hb cI cQ eR bU cU hT dZ eA gb cV k0 k1 eb;go_enter func172,ntmps172;go_wp2_with fail;change Code.wp _ _ _ _ (w.alloc (.cells (Za ⟨0,0,0,ZCz,[]⟩ (.slice none 0 0)) 150));rw[←ft.out];refine ZSi [(0,3),(1,3),(2,0),(3,3),(4,3),(5,3),(6,0),(7,3),(8,3),(9,1),(10,2)] λ bR=>?_
 repeat((first | refine ZSa ?_ | refine ZSb ?_ | refine ZSc ?_);simp only[Act.put,ZA,ZB,ZC])
 refine ZSd λ K hK=>?_
 go_simp;refine hK.out (λ w'=>Kept w1.heap.size w1 w') _ _ (λ _ h=>h) (bR.alloc _) (λ bT=>?_);clear hK K bR;repeat((first | refine ZSa ?_ | refine ZSb ?_ | refine ZSc ?_);simp only[Act.put,ZA,ZB,ZC])
 refine ZSe λ K hK=>?_
 go_simp;refine hK.out _ _ ?_;clear hK K;refine ZSf ?_;obtain⟨w2,cS⟩:∃ w2,w2=(w1.alloc (.cells (Za ⟨2,r,0,ZCz,[]⟩ (.slice none 0 0)) 150)).drew:=⟨_,rfl⟩;change Exit.then _ _ Exit.normal _ ((w1.alloc (.cells (Za ⟨2,r,0,ZCz,[]⟩ (.slice none 0 0)) 150)).drew);rw[←cS];have fu:Blk w2 w1.heap.size 150 (Za ⟨2,r,0,ZCz,[]⟩ (.slice none 0 0)):=by rw[cS];exact(ZBn _ _ _).drew
 have gm:Kept w.heap.size w w2:=by rw[cS];exact(cE.out.alloc _).drew
 have gI:Blk w2 w.heap.size 150 (Za ⟨0,0,0,ZCz,[]⟩ (.slice none 0 0)):=by rw[cS];exact(ez.out.alloc _).drew
 have nP:w.heap.size<w1.heap.size:=ez.out.lt;obtain⟨c0,c1,c2,c3,c4,c5,c6,c7,c8⟩:=fu.nine;have eY:=fu.lt;obtain⟨iw,cr,eU⟩:=ZH3 fu gm gI;clear fu gm gI cS bT cE ez ft mB mC;generalize w1.heap.size=G at *;have l6:w.heap.size≠G:=ZO;have mp:w.heap.size<=G:=ZO;go_wp2_with fail;refine(ZaJ 2 ZO ZO _).mono ?_;rintro _ w3 ⟨rfl,bZ⟩;rw[show upK 2=false from rfl,show evK 2=true from rfl,show clK 2=false from rfl];obtain⟨HF,HR,HK⟩:=ZH3 (iw.out.ob bZ) (eU.out.ob bZ) (cr.out.step bZ);have i5:=HF.out.lt;clear bZ c0 c1 c2 c3 c4 c5 c6 c7 c8 eY iw cr eU;go_wp2_with fail;refine(Zgk (ga.out.kept HK.out.below (ZL _)) (er.out) ZO events H.out.events fC [] HT.out).mono ?_;rintro _ w6 ⟨VV,rfl,nC,eu⟩;have lj:=HF.out.ob eu;obtain⟨c0,c1,c2,c3,c4,c5,c6,c7,c8⟩:=lj.nine;have f8:=lj.frozen 8;have tK:=lj.lt;obtain⟨mG,me⟩:=ZH2 (HR.out.ob eu) (HK.out.step eu);have lK:=HF.out.lt;obtain⟨BB,oe⟩:∃ BB,BB=w3.heap.size:=⟨_,rfl⟩;rw[←oe] at nC lK;obtain⟨av,cv,rfl,_⟩:=EvSl.ab nC;obtain⟨qd,sU⟩:=ZH2 lj nC;clear lj eu nC oe HF HR HK;obtain⟨W7,iK⟩:∃ W7,W7=w6.setCell ⟨G,8,none⟩ (.slice av events.length cv):=⟨_,rfl⟩;have HF:Hid (Blk W7 G 150 (Za ⟨2,r,0,ZCz,events⟩ (.slice av events.length cv))):=ZH (by rw[iK];exact qd.out.ai 8 _);have HR:Hid (Blk W7 w.heap.size 150 (Za ⟨0,0,0,ZCz,[]⟩ (.slice none 0 0))):=ZH (by rw[iK];exact mG.out.far l6 _);have HK:Hid (Kept w.heap.size w W7):=ZH (by rw[iK];exact me.out.setCell (by show w.heap.size<=G;omega) _)
 have sV:Hid (W7.ownsRow BB 89 12 (.slice av events.length cv) events.length (evCells events)):=ZH (by
  rw[iK]
  exact Zh sU.out (λ g hg _=>Below.heap_setCell _ _ _ _ (λ e=>by have:=Zb sU.out hg;have e:g=G:=e;omega)))
 have ri:=ZH iK;clear iK
 go_wp2_with (first
  |(refine wpList_load_row rfl 150 (.tmp 4) rfl G rfl 150 (Za ⟨2,r,0,ZCz,events⟩ (.slice av events.length cv)) (0,0) _ (by rw[←ri.out];exact HF.out) underlying150 rfl (Zat _ _) ?_
    rw[←ri.out])
  |(refine wpList_store_row rfl 150 (.tmp 2) (.tmp 72) rfl w.heap.size (Za ⟨2,r,0,ZCz,events⟩ (.slice av events.length cv)) rfl rfl 150 (Za ⟨0,0,0,ZCz,[]⟩ (.slice none 0 0)) HR.out (Zat _ _) rfl (Zbc _ _ _ _) ?_))
 refine bodyPost_ret (Zn rfl rfl rfl (run_loadVar_row _ _ _ _ _ _ _ (HR.out.row _) underlying150 rfl (Zat _ _))) rfl ?_;exact⟨(.slice av events.length cv),rfl,Zi (Zh sV.out (λ g hg _=>setRow_other _ _ _ _ (by have:=Zb sV.out hg;omega))) ZO,(HK.out.row (ZL _) _).below⟩
theorem Zpz{f:Frm}(h:RecOk f)(dF:f.kind=6){a:Option Addr}{n cap:Nat}{w:World}(hb:Bytes w a n cap (Zz f)):
  Calls prog 172 #[.slice a n cap] w λ r w'=>∃ v,r = .returned (.tuple #[Z8 f v,.bool true])/\w'.ownsRow w.heap.size 89 12 v f.events.length (evCells f.events)/\Below w.heap.size w w':=by
 have cI:=ZaF h;have cQ:=Za6 h;have hr:=h.r;have dJ:=h.upto;have fC:=h.len;have eb:=h.clock;obtain⟨kind,r,upto,clock,events⟩:=f;simp only[] at dF hr dJ fC eb;subst dF;have H:=ZH h;clear h;have cX:upto=0:=H.out.upto0 ZM ZM;have kd:events=[]:=H.out.events0 ZM;subst cX kd;obtain⟨T,hT⟩:∃ T,T=(Zw clock 5):=⟨_,rfl⟩;have dZ:Zz ⟨6,r,0,clock,[]⟩=6::r::T:=by rw[hT];simp[Zz,upK,clK,evK]
 rw[dZ] at hb cI cQ;have ux:1<=T.length:=by
  rw[hT];first|(have:=Z4 upto;rw[ZI];omega)|(have:=Z4 events.length;rw[ZI];omega)|(have:=Z4 (clock.get 4);simp only[Zw,ZI];omega)
 have eR:=hb.len;have kj:2+T.length=n:=by
  rw[←eR];simp only[List.length_cons];omega
 have uy:T.length<=60098:=by simp only[List.length_cons] at cQ;omega
 obtain⟨b,off,rfl,bY,bU⟩:=hb.pos ZO;have fZ:=hb.1;have k0:=bU 0 ZO;have k1:=bU 1 ZO;rw[Nat.add_zero,show(6::r::T).getD 0 0=6 from rfl] at k0;rw[show(6::r::T).getD 1 0=r from rfl] at k1;have cU:=hb.rest (k:=2) ZO;rw[if_neg ZO,show(6::r::T).drop 2=T from rfl] at cU;have er:Hid (∀ x∈T,x<256):=ZH (λ x hx=>cI x (List.mem_cons_of_mem _ (List.mem_cons_of_mem _ hx)));obtain⟨ga,HT⟩:=ZH2 cU hT;have km:¬ ((n:Int)<2):=ZO;have tO:(0:Int)<(n:Int):=ZO;have tP:0<n:=ZO;have tQ:1<n:=ZO;have kL:(1:Int)<(n:Int):=ZO;have kM:(2:Int)<=(n:Int):=ZO;have kN:(2:Int)<=(cap:Int):=ZO;have nD:IntKind.i64.wrap (r:Int)=(r:Int):=by rw[IntKind.wrap_i64];omega
 have uf:IntKind.i64.wrap (6:Int)=6:=by rw[IntKind.wrap_i64];omega
 have jx:¬ (cap=2):=ZO;obtain⟨w1,cV⟩:∃ w1,w1=w.alloc (.cells (Za ⟨0,0,0,ZCz,[]⟩ (.slice none 0 0)) 150):=⟨_,rfl⟩;have eA:Kept w.heap.size w w1:=by rw[cV];exact(ZKr w).alloc _
 have gb:Blk w1 w.heap.size 150 (Za ⟨0,0,0,ZCz,[]⟩ (.slice none 0 0)):=by rw[cV];exact ZBn _ _ _
 have ms:b<w1.heap.size:=ZR bY eA.le;have mB:w1.cell? ⟨b,off,none⟩=some (.int .u8 ((6:Nat):Int)):=by rw[eA.cells b _ bY];exact k0
 have mC:w1.cell? ⟨b,off+1,none⟩=some (.int .u8 (r:Int)):=by rw[eA.cells b _ bY];exact k1
 obtain⟨cE,ez,ft⟩:=ZH3 eA gb cV;clear hb cI cQ eR bU cU hT dZ eA gb cV k0 k1 eb;go_enter func172,ntmps172;go_wp2_with fail;change Code.wp _ _ _ _ (w.alloc (.cells (Za ⟨0,0,0,ZCz,[]⟩ (.slice none 0 0)) 150));rw[←ft.out];refine ZSi [(0,3),(1,3),(2,0),(3,3),(4,3),(5,3),(6,0),(7,3),(8,3),(9,1),(10,2)] λ bR=>?_
 repeat((first | refine ZSa ?_ | refine ZSb ?_ | refine ZSc ?_);simp only[Act.put,ZA,ZB,ZC])
 refine ZSd λ K hK=>?_
 go_simp;refine hK.out (λ w'=>Kept w1.heap.size w1 w') _ _ (λ _ h=>h) (bR.alloc _) (λ bT=>?_);clear hK K bR;repeat((first | refine ZSa ?_ | refine ZSb ?_ | refine ZSc ?_);simp only[Act.put,ZA,ZB,ZC])
 refine ZSe λ K hK=>?_
 go_simp;refine hK.out _ _ ?_;clear hK K;refine ZSf ?_;obtain⟨w2,cS⟩:∃ w2,w2=(w1.alloc (.cells (Za ⟨6,r,0,ZCz,[]⟩ (.slice none 0 0)) 150)).drew:=⟨_,rfl⟩;change Exit.then _ _ Exit.normal _ ((w1.alloc (.cells (Za ⟨6,r,0,ZCz,[]⟩ (.slice none 0 0)) 150)).drew);rw[←cS];have fu:Blk w2 w1.heap.size 150 (Za ⟨6,r,0,ZCz,[]⟩ (.slice none 0 0)):=by rw[cS];exact(ZBn _ _ _).drew
 have gm:Kept w.heap.size w w2:=by rw[cS];exact(cE.out.alloc _).drew
 have gI:Blk w2 w.heap.size 150 (Za ⟨0,0,0,ZCz,[]⟩ (.slice none 0 0)):=by rw[cS];exact(ez.out.alloc _).drew
 have nP:w.heap.size<w1.heap.size:=ez.out.lt;obtain⟨c0,c1,c2,c3,c4,c5,c6,c7,c8⟩:=fu.nine;have eY:=fu.lt;obtain⟨iw,cr,eU⟩:=ZH3 fu gm gI;clear fu gm gI cS bT cE ez ft mB mC;generalize w1.heap.size=G at *;have l6:w.heap.size≠G:=ZO;have mp:w.heap.size<=G:=ZO;go_wp2_with fail;refine(ZaJ 6 ZO ZO _).mono ?_;rintro _ w3 ⟨rfl,bZ⟩;rw[show upK 6=false from rfl,show evK 6=false from rfl,show clK 6=true from rfl];obtain⟨HF,HR,HK⟩:=ZH3 (iw.out.ob bZ) (eU.out.ob bZ) (cr.out.step bZ);have i5:=HF.out.lt;clear bZ c0 c1 c2 c3 c4 c5 c6 c7 c8 eY iw cr eU;have di:=ZH (show Bytes w (some ⟨b,off+2,none⟩) (n-2) (cap-2) (T.drop (Zw clock 0).length) from ga.out);have ji:n-2<=60098:=ZO;go_wp2_with fail;go_loopw [8,9,10] (λ ok v0 i wr=>∃ (j:Nat) (A:Option Addr) (n' C':Nat),j<=5/\i = .int .i64 j/\ok = .bool true/\v0 = .slice A n' C'/\n'<=60098/\Hid (Bytes w A n' C' (T.drop (Zw clock j).length))/\Hid (Blk wr G 150 (Za ⟨6,r,0,ZfD clock j,[]⟩ (.slice none 0 0)))/\Hid (Blk wr w.heap.size 150 (Za ⟨0,0,0,ZCz,[]⟩ (.slice none 0 0)))/\Hid (Kept w.heap.size w wr)) (λ _ _ i _=>5-(intOf i).toNat)
 case atStart=>exact⟨0,_,_,_,ZO,rfl,rfl,rfl,ji,di,HF,HR,HK⟩
 case round =>
  clear di HF HR HK;obtain⟨j,A,n',C',hj,rfl,rfl,rfl,Ce,qa,xy,xO,sA⟩:=hrel;by_cases qx:j<5
  ·have Ca:(j:Int)<5:=ZO;have uH:(0:Int)<=(j:Int):=ZO;have fh:T.drop (Zw clock j).length=Zd (clock.get j)++T.drop (Zw clock (j+1)).length:=by
    have h:=Zf1 clock qx;rw[←HT.out] at h;exact h
   have mg:=ZH (ZeS (qa.out.kept sA.out.below (ZL _)) (λ x hx=>er.out x (List.mem_of_mem_drop hx)) (clock.get j) (H.out.clock j) _ fh);clear fh;go_wp2_with fail;refine mg.out.mono ?_;rintro _ w4 ⟨A4,n4,C4,rfl,i3,qC,cz⟩;have fK:=ZH (i3 w qa.out);have fG:=xy.out.ob cz;have cj:=fG.cell (3+j);rw[Zf6 _ _ _ _ _ _ qx] at cj;have fj:=fG.frozen (3+j);have eY:=fG.lt;have mH:=fG.ai (3+j) (.int .i64 ((clock.get j:Nat):Int));rw[Zf7 _ _ _ _ _ _ qx] at mH;obtain⟨gH,fi,mD⟩:=ZH3 ((xO.out.ob cz).far (p:=⟨G,3+j,none⟩) l6 (.int .i64 ((clock.get j:Nat):Int))) ((sA.out.step cz).setCell (p:=⟨G,3+j,none⟩) mp (.int .i64 ((clock.get j:Nat):Int))) mH;clear fG mH cz i3 mg;go_wp2
   go_roundw
   case rel=>exact⟨j+1,_,_,_,ZO,ZN,rfl,rfl,ZO,fK,mD,gH,fi⟩
   case measure=>simp[intOf];omega
  ·obtain rfl:j=5:=ZO;have HF:=xy;rw[Ze6] at HF;have HR:=xO;have HK:=sA
   go_wp2_with (first
    |(refine wpList_load_row rfl 150 (.tmp 4) rfl G rfl 150 (Za ⟨6,r,0,clock,[]⟩ (.slice none 0 0)) (0,0) _ HF.out underlying150 rfl (Zat _ _) ?_)
    |(refine wpList_store_row rfl 150 (.tmp 2) (.tmp 72) rfl w.heap.size (Za ⟨6,r,0,clock,[]⟩ (.slice none 0 0)) rfl rfl 150 (Za ⟨0,0,0,ZCz,[]⟩ (.slice none 0 0)) HR.out (Zat _ _) rfl (Zbc _ _ _ _) ?_))
   refine bodyPost_ret (Zn rfl rfl rfl (run_loadVar_row _ _ _ _ _ _ _ (HR.out.row _) underlying150 rfl (Zat _ _))) rfl ?_;exact⟨(.slice none 0 0),rfl,⟨rfl,.inl ⟨rfl,rfl⟩⟩,(HK.out.row (ZL _) _).below⟩
theorem ZqZ{f:Frm}(h:RecOk f){a:Option Addr}{n cap:Nat}{w:World}(hb:Bytes w a n cap (Zz f)):
  Calls prog 172 #[.slice a n cap] w λ r w'=>∃ v,r = .returned (.tuple #[Z8 f v,.bool true])/\w'.ownsRow w.heap.size 89 12 v f.events.length (evCells f.events)/\Below w.heap.size w w':=by
 have h1:=h.kind1;have h6:=h.kind6;rcases(by omega:f.kind=1∨f.kind=2∨f.kind=3∨f.kind=4∨f.kind=5∨f.kind=6) with hk | hk | hk | hk | hk | hk
 ·exact Zpu h hk hb
 ·exact Zpv h hk hb
 ·exact Zpw h hk hb
 ·exact Zpx h hk hb
 ·exact Zpy h hk hb
 ·exact Zpz h hk hb
theorem Zh0{P:Program}{fn:Func}{t1 y1 t2 t3:Nat}(h:fn.results=#[.cell t1 y1,.tmp t2,.tmp t3]){tmps:Array Value}{w:World}{a1:Addr}{v1 v2 v3:Value}
  (p1:tmps.getD t1 undef = .pointer (some a1)) (p2:tmps.getD t2 undef=v2) (p3:tmps.getD t3 undef=v3) (l1:(loadVar y1 a1).run P w = .ok v1 w):(results fn tmps).run P w = .ok (.tuple #[v1,v2,v3]) w:=by
 have q1:tmps[t1]?.getD undef = .pointer (some a1):=by simpa using p1
 have q2:tmps[t2]?.getD undef=v2:=by simpa using p2
 have q3:tmps[t3]?.getD undef=v3:=by simpa using p3
 simp[results,h,q1,q2,q3,asAddr,l1]
theorem Zbh{f:Frm}(h:RecOk f):(recBytes f).length<=60200/\(recBytes f).length=(Zd (Zau (Zz f)).length).length+(Zau (Zz f)).length/\(Zd (Zau (Zz f)).length).length<=3/\(Zau (Zz f)).length<=60104/\4<=(Zau (Zz f)).length:=by
 have h1:=Za6 h;have h2:(Zau (Zz f)).length<=60104:=by rw[ZbD];omega
 have h3:=Z3 2 (Zau (Zz f)).length ZO;have h4:4<=(Zau (Zz f)).length:=by rw[ZbD];omega
 unfold recBytes;rw[ZI];omega
theorem Zpt{f:Frm}(h:RecOk f){a:Option Addr}{n cap:Nat}{l rest:List Nat}{w:World}(hb:Bytes w a n cap l)(hs:∀ x∈l,x<256)(hn:n<=100000000)(hl:l=recBytes f++rest):
  Calls prog 126 #[.slice a n cap] w λ r w'=>∃ v,r = .returned (.tuple #[Z8 f v,.int .i64 (recBytes f).length,.bool true])/\w'.ownsRow w.heap.size 89 12 v f.events.length (evCells f.events)/\Below w.heap.size w w':=by
 obtain⟨b1,b2,b3,b4,b5⟩:=Zbh h;have eR:=hb.len;have cI:=ZaF h;obtain⟨SL,gO⟩:∃ SL,SL=Zau (Zz f):=⟨_,rfl⟩;rw[←gO] at b2 b3 b4 b5;have yL:recBytes f=Zd SL.length++SL:=by unfold recBytes;rw[←gO]
 have fc:(recBytes f).length<=n:=by rw[←eR,hl,ZI];omega
 have hp:=Z4 SL.length;have fT:=ZcE SL.length (SL++rest) ZO;rw[←List.append_assoc,←yL,←hl] at fT;have cD:=hb.kept ((ZW w.heap.size w).alloc (ZL _) (.cells (Za ⟨0,0,0,ZCz,[]⟩ (.slice none 0 0)) 150)) (ZL _);have js:=ZcD cD hs;obtain⟨b,off,rfl,bY,_⟩:=hb.pos ZO;have fZ:=hb.1;have fB:=hb.cut (recBytes f).length fc;rw[show l.take (recBytes f).length=recBytes f by rw[hl,List.take_left]] at fB;have kF:=fB.rest (k:=(Zd SL.length).length) ZO;rw[if_neg ZO,show(recBytes f).drop (Zd SL.length).length=SL by rw[yL,List.drop_left]] at kF;obtain⟨K,hK⟩:∃ K,K=(Zd SL.length).length:=⟨_,rfl⟩;obtain⟨L,hL⟩:∃ L,L=SL.length:=⟨_,rfl⟩;obtain⟨N,hN⟩:∃ N,N=(recBytes f).length:=⟨_,rfl⟩;rw[←hK,←hL] at b2;rw[←hK] at b3 hp;rw[←hL] at b4 b5;rw[←hN] at b1 b2 fc fB;rw[←hN,←hK] at kF;rw[←hK,←hL] at fT;obtain⟨df,nH,H,gE,ld,I9,xt,iZ,cH⟩:=ZH9 ((ZKr w).alloc (.cells (Za ⟨0,0,0,ZCz,[]⟩ (.slice none 0 0)) 150)) (ZBn w 150 (Za ⟨0,0,0,ZCz,[]⟩ (.slice none 0 0))) h js fT fB kF gO b2;obtain⟨gx,jM⟩:=ZH2 cI hN;have iW:IntKind.i64.wrap ((n:Int)-(K:Int))=(n:Int)-(K:Int):=by rw[IntKind.wrap_i64];omega
 have S7:IntKind.u64.wrap ((n:Int)-(K:Int))=(n:Int)-(K:Int):=by rw[IntKind.wrap_u64];omega
 have xj:IntKind.i64.wrap (L:Int)=(L:Int):=by rw[IntKind.wrap_i64];omega
 have S5:IntKind.i64.wrap ((K:Int)+(L:Int))=(N:Int):=by rw[IntKind.wrap_i64];omega
 have yq:¬ ((n:Int)-(K:Int)<(L:Int)):=ZO;have KZ:(0:Int)<=(N:Int):=ZO;have hNn:(N:Int)<=(cap:Int):=ZO;have th:(0:Int)<=(K:Int):=ZO;have hKN:(K:Int)<=(N:Int):=ZO;have hKc:(K:Int)<=(cap:Int):=ZO;have hcK:¬ (cap=K):=ZO;clear h hb cD hs hl js fT fB kF gO b2 yL cI hK hL hN;go_enter func126,ntmps126;go_wp2_with fail;refine gE.out.mono ?_;rintro e w1 hP;obtain⟨rfl,rfl⟩:e = .returned (.tuple #[.int .u64 (L:Nat),.int .i64 (K:Nat),.int .i64 ((0:Nat):Int)])/\_=w1:=by
  have fR:=hP;unfold ZaQ at fR;rw[ld.out] at fR;exact fR
 clear hP gE;go_wp2_with fail;have t6:∀ x∈SL,x<256:=λ x hx=>by
  rw[iZ.out] at hx;exact ZeT gx.out x hx
 refine(Zii (xt.out.kept df.out.below (ZL _)) t6 ZO).mono ?_;rintro _ w1 hP;rcases hP with ⟨_,v1,rfl,eh,bS⟩|⟨gr,_⟩
 rotate_left 1
 ·rw[iZ.out] at gr;exact absurd (Zgi _) gr
 have ow:SL.take (SL.length-4)=Zz f:=by
  rw[iZ.out,ZbD,show ∀ m:Nat,m+4-4=m from λ m=>by omega];unfold Zau;rw[List.take_left]
 rw[ow] at eh;obtain⟨a1,DT,rfl,jT⟩:=Bytes.ab eh;have cE:=ZH (df.out.step bS);have gb:=nH.out.ob bS;obtain⟨sN,j7,ez⟩:=ZH3 gb.lt jT gb;clear eh jT gb bS ow t6 df nH;go_wp2_with fail;refine(ZqZ H.out j7.out).mono ?_;rintro _ w2 ⟨v2,rfl,dC,bW⟩;obtain⟨a2,dg,rfl,jk⟩:=EvSl.ab dC;have cJ:=cE.out.step bW;have gI:=ez.out.ob bW;obtain⟨cC,ep,ia,iq,Ko⟩:=ZH5 (cJ.alloc (.cells (Za f (.slice a2 f.events.length dg)) 150)) (gI.alloc (.cells (Za f (.slice a2 f.events.length dg)) 150)) (ZBn w2 150 (Za f (.slice a2 f.events.length dg))) (jk.below ((ZW w2.heap.size w2).alloc (ZL _) (.cells (Za f (.slice a2 f.events.length dg)) 150))) (dC.alloc (.cells (Za f (.slice a2 f.events.length dg)) 150));have Sz:w.heap.size<w2.heap.size:=gI.lt;clear dC jk cJ gI bW;go_wp2_with fail;refine(ZjB H.out iq.out).mono ?_;rintro _ w4 ⟨v4,rfl,ie,cz⟩;obtain⟨a4,iB,rfl,rI⟩:=Bytes.ab ie;have dr:=cC.out.step cz;obtain⟨fK,cZ,sL,fU,i9,sR⟩:=ZH6 (I9.out.kept dr.below (ZL _)) dr rI (ep.out.ob cz) (ia.out.ob cz) (Ze Ko.out cz);clear ie rI dr cz;go_wp2_with fail;refine(Zix sL.out fK.out).mono ?_;rintro _ w5 ⟨rfl,dw⟩;obtain⟨fi,gH,qk,sS⟩:=ZH4 (cZ.out.step dw) (fU.out.ob dw) (i9.out.ob dw) (Ze sR.out dw);clear dw
 go_wp2_with (first
  |(refine wpList_load_row rfl 150 (.tmp 11) rfl w2.heap.size rfl 150 (Za f (.slice a2 f.events.length dg)) (0,0) _ qk.out underlying150 rfl (Zat _ _) ?_)
  |(refine wpList_store_row rfl 150 (.tmp 2) (.tmp 70) rfl w.heap.size (Za f (.slice a2 f.events.length dg)) rfl rfl 150 (Za ⟨0,0,0,ZCz,[]⟩ (.slice none 0 0)) gH.out (Zat _ _) rfl (Zbc _ _ _ _) ?_))
 refine bodyPost_ret (Zh0 rfl rfl rfl rfl (run_loadVar_row _ _ _ _ _ _ _ (gH.out.row _) underlying150 rfl (Zat _ _))) rfl ?_;rw[←jM.out];refine⟨_,rfl,Zi (Zh sS.out (λ g hg _=>setRow_other _ _ _ _ (by have:=Zb sS.out hg;have:=sN.out;omega))) cE.out.le,(fi.out.row (ZL _) _).below⟩
theorem Zoq(L m:Nat)(hL:L<1000000)(hm:m<(Zd L).length):Zc0 (((Zd L).take m).take 10)=(0,0,2):=by
 have hlen:=Z3 2 L ZO;have gB:=ZlE L;have e:((Zd L).take m).take 10=(Zd L).take m:=ZU (by rw[ZV];omega)
 rw[e,ZeU (λ j hj=>by
  rw[ZV] at hj;rw[Zhm ZO]
  exact gB j ZO),if_neg (by rw[ZV];omega)]
theorem ZlH{f:Frm}(h:RecOk f){m:Nat}(hm:m<(recBytes f).length){a:Option Addr}{n cap:Nat}{w:World}(hb:Bytes w a n cap ((recBytes f).take m))(hs:∀ x∈recBytes f,x<256):
  Calls prog 126 #[.slice a n cap] w (Zv (.tuple #[Z8 ⟨0,0,0,ZCz,[]⟩ (.slice none 0 0),.int .i64 0,.bool false]) w):=by
 obtain⟨b1,b2,b3,b4,b5⟩:=Zbh h;have eR:=hb.len;rw[ZV,Nat.min_eq_left ZO] at eR;subst eR;obtain⟨SL,gO⟩:∃ SL,SL=Zau (Zz f):=⟨_,rfl⟩;rw[←gO] at b2 b3 b4 b5;have yL:recBytes f=Zd SL.length++SL:=by unfold recBytes;rw[←gO]
 have cD:=hb.kept ((ZW w.heap.size w).alloc (ZL _) (.cells (Za ⟨0,0,0,ZCz,[]⟩ (.slice none 0 0)) 150)) (ZL _);have js:=ZcD cD (λ x hx=>hs x (List.mem_of_mem_take hx));have cA:=(ZKr w).alloc (.cells (Za ⟨0,0,0,ZCz,[]⟩ (.slice none 0 0)) 150);have nU:=ZBn w 150 (Za ⟨0,0,0,ZCz,[]⟩ (.slice none 0 0));obtain⟨gE,df,nH⟩:=ZH3 js cA nU;rcases Nat.lt_or_ge m (Zd SL.length).length with ce | my
 focus
  have fT:Zc0 (((recBytes f).take m).take 10)=(0,0,2):=by
   have e:(recBytes f).take m=(Zd SL.length).take m:=by
    rw[yL,List.take_append_of_le_length ZO]
   rw[e];exact Zoq SL.length m ZO ce
  have ld:=ZH fT;clear h hb cD hs js cA nU gO yL fT b1 b2 b3 b4 b5;go_enter func126,ntmps126;go_wp2_with fail;refine gE.out.mono ?_;rintro e w1 hP;obtain⟨rfl,rfl⟩:e = .returned (.tuple #[.int .u64 ((0:Nat):Int),.int .i64 ((0:Nat):Int),.int .i64 ((2:Nat):Int)])/\_=w1:=by
   have fR:=hP;unfold ZaQ at fR;rw[ld.out] at fR;exact fR
 rotate_left
 focus
  have fT:Zc0 (((recBytes f).take m).take 10)=(SL.length,(Zd SL.length).length,0):=by
   have e:(recBytes f).take m=Zd SL.length++SL.take (m-(Zd SL.length).length):=by
    rw[yL,List.take_append,ZU my]
   rw[e];exact ZcE SL.length _ ZO
  have ld:=ZH fT;clear h hb cD hs js cA nU gO yL fT;obtain⟨K,hK⟩:∃ K,K=(Zd SL.length).length:=⟨_,rfl⟩;obtain⟨L,hL⟩:∃ L,L=SL.length:=⟨_,rfl⟩;rw[←hL] at ld hK b2 b3 b4 b5 my;rw[←hK] at ld b2 b3 my;have iW:IntKind.i64.wrap ((m:Int)-(K:Int))=(m:Int)-(K:Int):=by rw[IntKind.wrap_i64];omega
  have S7:IntKind.u64.wrap ((m:Int)-(K:Int))=(m:Int)-(K:Int):=by rw[IntKind.wrap_u64];omega
  have yq:((m:Int)-(K:Int)<(L:Int)):=ZO;clear hK hL b1 b2 b3 b4 b5 hm;go_enter func126,ntmps126;go_wp2_with fail;refine gE.out.mono ?_;rintro e w1 hP;obtain⟨rfl,rfl⟩:e = .returned (.tuple #[.int .u64 (L:Int),.int .i64 (K:Int),.int .i64 ((0:Nat):Int)])/\_=w1:=by
   have fR:=hP;unfold ZaQ at fR;rw[ld.out] at fR;exact fR
 rotate_left
 all_goals
  clear hP gE
  go_wp2_with (first
   |(refine Zan rfl 150 _ rfl (Za ⟨0,0,0,ZCz,[]⟩ (.slice none 0 0)) ZK ?_)
   |(refine wpList_store_row rfl 150 (.tmp 2) (.tmp 31) rfl w.heap.size (Za ⟨0,0,0,ZCz,[]⟩ (.slice none 0 0)) rfl rfl 150 (Za ⟨0,0,0,ZCz,[]⟩ (.slice none 0 0)) nH.out (Zat _ _) rfl (Zbc _ _ _ _) ?_))
  refine bodyPost_ret (Zh0 rfl rfl rfl rfl (run_loadVar_row _ _ _ _ _ _ _ (nH.out.row _) underlying150 rfl (Zat _ _))) rfl ?_;exact⟨rfl,(df.out.row (ZL _) _).below⟩
theorem ZrV:(prog.info? 150).map (λ i=>(i.zero,i.size,i.bytes))=some (some (.agg (Za ⟨0,0,0,ZCz,[]⟩ (.slice none 0 0))),9,88):=ZK
theorem ZmI{P:Program}{a:Act}{w:World}{Q:Exit->Act->World->Prop}{c R:Code}(l:Nat)(J:Act->World->Prop)(μ : Act->World->Nat)(hf:findLabel c l=some (Code.seq Code.skip R))
  (GA:∀ a w,J a w->R.wp P (Exit.jump l (λ a' w'=>J a' w' /\ μ a' w' < μ a w) Q) a w)
  (first:(∀ a w,J a w->R.wp P (Exit.jump l J Q) a w)->c.wp P (Exit.jump l J Q) a w):(Code.scope c).wp P Q a w :=
 wp_scope_jumps l J μ hf (first λ a w h=>Code.wp_mono (λ e a w q=>by
  cases e <;> first | exact q | exact⟨q.1,q.2.1⟩) (GA a w h)) λ a w h=>wp_seq (wp_skip (GA a w h))
def recCells(l:List (Frm × Value)):List Value:=l.flatMap λ p=>(Za p.1 p.2).toList
theorem ZkH(l:List (Frm × Value))(f:Frm)(v:Value):recCells (l++[(f,v)])=recCells l++(Za f v).toList:=by
 simp[recCells]
def recsBytes(l:List Frm):List Nat:=l.flatMap recBytes
theorem ZjC{l:List Frm}{q:Nat}{f:Frm}(h:l[q]? = some f):recsBytes (l.take (q+1))=recsBytes (l.take q)++recBytes f:=by
 rw[List.take_add_one,h];simp[recsBytes]
theorem ZcK{f:Frm}(h:RecOk f):∀ x∈recBytes f,x<256:=by
 intro x hx;unfold recBytes at hx;rw[List.mem_append] at hx;rcases hx with hx | hx
 ·exact Zay _ x hx
 ·exact ZeT (ZaF h) x hx
structure RecRows(base:Nat)(w:World)(v:Value)(rs:List Frm)(ps:List (Frm × Value)):Prop where
 is_:ps.map (·.1)=rs
 row:w.ownsRow base 150 9 v rs.length (recCells ps)
 evs:∀ p∈ps,w.ownsRow base 89 12 p.2 p.1.events.length (evCells p.1.events)
theorem RecRows.below{base:Nat}{w w':World}{v:Value}{rs:List Frm}{ps:List (Frm × Value)}(h:RecRows base w v rs ps)(hb:Below w.heap.size w w'):RecRows base w' v rs ps :=
 ⟨h.is_,Ze h.row hb,λ p hp=>Ze (h.evs p hp) hb⟩
theorem Zg8{w w':World}{B B':Nat}{e e':TypeId}{sz MU n n':Nat}{v v':Value}{xs MY:List Value}(h:w.ownsRow B e sz v n xs)(h':w.ownsRow B' e' MU v' n' MY)(dz:e≠e')(hg:w.grownBy w' v.ownBlock):w'.ownsRow B' e' MU v' n' MY :=
 Zh h' (λ g kf hl=>hg.block g hl (λ e=>by
  rcases h'.2 with ⟨rfl,_⟩|⟨g2,cap,cur,rfl,_,hb,_⟩
  ·cases kf
  ·injection kf with kf
   subst kf
   exact Zo h (show Blk w g2 e' cur from hb) dz e.symm))
theorem ZnC(f:Frm)(a:Option Addr)(n c:Nat):∀ u∈(Za f (.slice a n c)).toList,u.oneCell'=true:=by
 intro v hv;simp at hv;rcases hv with rfl | rfl | rfl | rfl | rfl | rfl | rfl | rfl | rfl <;> rfl
theorem Zr6{w:World}{b o n cap:Nat}{l:List Nat}(hb:Bytes w (some ⟨b,o,none⟩) n cap l)(hn:n<=100000000)(rs:List Frm)(iQ:∀ f∈rs,RecOk f)(kX:rs.length<=1000000)(f0:Frm)(h0:RecOk f0)(m:Nat)(hm:m<(recBytes f0).length)(hl:l=recsBytes rs++(recBytes f0).take m):
  Calls prog 82 #[.slice (some ⟨b,o,none⟩) n cap] w λ r w'=>∃ v ps,r = .returned (.tuple #[v,.int .i64 (recsBytes rs).length])/\RecRows w.heap.size w' v rs ps/\Below w.heap.size w w':=by
 obtain⟨i0,hi,cM,cG,cK⟩:=info_parts ZrV;have eR:=hb.len;have fZ:=hb.1;obtain⟨HB,ga,HL,H0⟩:=ZH4 hb iQ hl h0;have hRn:(recsBytes rs).length<=n:=by rw[←eR,hl,ZI];omega
 clear hb iQ hl h0 eR;go_enter func82,ntmps82;go_wp2_with fail;obtain⟨J,hJ⟩:∃ J:Act->World->Prop,J=λ a' w'=>∃ (j:Nat) (ps:List (Frm × Value)) (v u6 u7 u8 u9 GC GD GE GF GG GH GI GJ GK GL GM GN GO GP GQ GR GS:Value),j<=rs.length/\a'={ tmps:=#[.slice (some ⟨b,o,none⟩) n cap,undef,.slice none 0 0,.int .i64 0,v,.int .i64 ((recsBytes (rs.take j)).length:Int),u6,u7,u8,u9,GC,GD,GE,GF,GG,GH,GI,GJ,GK,GL,GM,GN,GO,GP,GQ,GR,GS],defers:=[] }/\Hid (RecRows w.heap.size w' v (rs.take j) ps)/\Hid (Kept w.heap.size w w'):=⟨_,rfl⟩
 have HJ:=ZH hJ;clear hJ;refine ZmI 0 J (λ a' _=>n-(intOf (a'.tmps.getD 5 undef)).toNat) rfl ?_ ?_
 ·intro a' w' uH;rw[HJ.out] at uH;obtain⟨j,ps,v,u6,u7,u8,u9,GC,GD,GE,GF,GG,GH,GI,GJ,GK,GL,GM,GN,GO,GP,GQ,GR,GS,hj,rfl,HR,HK⟩:=uH;obtain⟨AT,vO⟩:∃ AT,AT=(recsBytes (rs.take j)).length:=⟨_,rfl⟩;have dO:recsBytes rs=recsBytes (rs.take j)++recsBytes (rs.drop j):=by
   unfold recsBytes;rw[←List.flatMap_append,List.take_append_drop]
  have hATn:AT<=(recsBytes rs).length:=by rw[vO,dO,ZI];omega
  rw[←vO];have kp:=HB.out.rest (k:=AT) ZO;have hATI:(AT:Int)<=(n:Int):=ZO;have hATC:(AT:Int)<=(cap:Int):=ZO;have hAT0:(0:Int)<=(AT:Int):=ZO;by_cases E4:j<rs.length
  ·obtain⟨f,hf⟩:∃ f,rs[j]? = some f:=⟨_,ZX E4⟩;have eO:=ga.out f (ZY hf);have kT:rs.drop j=f::rs.drop (j+1):=by
    rw[List.drop_eq_getElem_cons E4];congr 1;rw[ZX E4] at hf;injection hf
   obtain⟨RT,K4⟩:∃ RT,RT=recsBytes (rs.drop (j+1))++(recBytes f0).take m:=⟨_,rfl⟩;have Pi:l.drop AT=recBytes f++RT:=by
    rw[HL.out,dO,vO,List.append_assoc,List.drop_left,kT,K4];show recBytes f++recsBytes (rs.drop (j+1))++_=_
    rw[List.append_assoc]
   have hlen:=Zbh eO;have ce:AT+(recBytes f).length<=(recsBytes rs).length:=by
    rw[vO,dO,ZI,kT];show _<=_+(recBytes f++recsBytes (rs.drop (j+1))).length
    rw[ZI];omega
   have jx:¬ (cap=AT):=ZO;rw[if_neg jx,Pi] at kp;have cI:∀ x∈recBytes f++RT,x<256:=λ x hx=>by
    rw[List.mem_append] at hx;rcases hx with hx | hx
    ·exact ZcK eO x hx
    ·rw[K4,List.mem_append] at hx;rcases hx with hx | hx
     ·obtain⟨g,hg,hx⟩:=List.mem_flatMap.1 hx;exact ZcK (ga.out g (List.mem_of_mem_drop hg)) x hx
     ·exact ZcK H0.out x (List.mem_of_mem_take hx)
   have rx:=Zpt eO (kp.kept HK.out.below (ZL _)) cI ZO rfl;have ed:=ZjC hf;have js:rs.take (j+1)=rs.take j++[f]:=by rw[List.take_add_one,hf];rfl
   obtain⟨FL,KT⟩:∃ FL,FL=(recBytes f).length:=⟨_,rfl⟩;rw[←KT] at rx ce;have hFL1:1<=FL:=ZO;have S5:IntKind.i64.wrap ((AT:Int)+(FL:Int))=((AT+FL:Nat):Int):=by rw[IntKind.wrap_i64];omega
   have tg:AT+FL=(recsBytes (rs.take (j+1))).length:=by rw[ed,ZI,←vO,←KT]
   obtain⟨HF,gE,zl⟩:=ZH3 rx js tg;clear rx js tg ed kp cI Pi K4 kT hf dO vO eO hlen KT;go_wp2_with fail;refine HF.out.mono ?_;rintro _ w3 ⟨v3,rfl,MD,bZ⟩;obtain⟨a3,dm,rfl,_⟩:=EvSl.ab MD;have cB:=HR.out.row;obtain⟨M,hM⟩:∃ M,M=(rs.take j).length:=⟨_,rfl⟩;have ti:M<=1000000:=by rw[hM,ZV];omega
   rw[←hM] at cB;have Gf:∃ av cv,v = .slice av M cv:=by
    rcases cB.2 with ⟨h1,h2⟩|⟨g,cp,_,h1,_⟩
    ·subst h2;exact⟨none,0,h1⟩
    ·exact⟨_,cp,h1⟩
   obtain⟨av,cv,rfl⟩:=Gf;have cz:Below w'.heap.size w' ((w3.alloc (.cells (Za f (.slice a3 f.events.length dm)) 150)).alloc (.cells (Za f (.slice a3 f.events.length dm)) 150)):=((Kept.start bZ).alloc _ |>.alloc _).below;have j8:=ZH (Ze cB cz);have dr:=((HK.out.step bZ).alloc (.cells (Za f (.slice a3 f.events.length dm)) 150)).alloc (.cells (Za f (.slice a3 f.events.length dm)) 150);have oF:=dr.le;have sR:=ZH (Zi ((MD.alloc (.cells (Za f (.slice a3 f.events.length dm)) 150)).alloc (.cells (Za f (.slice a3 f.events.length dm)) 150)) HK.out.le);have iH:Hid (Reads ((w3.alloc (.cells (Za f (.slice a3 f.events.length dm)) 150)).alloc (.cells (Za f (.slice a3 f.events.length dm)) 150)) ((w3.alloc (.cells (Za f (.slice a3 f.events.length dm)) 150)).alloc (.cells (Za f (.slice a3 f.events.length dm)) 150)).heap.size 9 (some ⟨w3.heap.size+1,0,none⟩) 1 (Za f (.slice a3 f.events.length dm)).toList):=ZH (Reads.ao (Z6 w3 _ _ _) rfl);obtain⟨cZ,fK,HM⟩:=ZH3 dr cz hM;clear cB dr cz bZ MD hM
   go_wp2_with (first
    |(at_builtin
      refine Zc _ rfl (.tmp 18) (.tmp 20) _ rfl w.heap.size 150 i0 _ 9 88 underlying164 hi cM cG cK rfl ZO (.slice av M cv) M (recCells ps) rfl j8.out _ (some ⟨w3.heap.size+1,0,none⟩) 1 1 (Za f (.slice a3 f.events.length dm)).toList rfl iH.out (ZnC _ _ _ _) ZF ZO oF ?_;intro v7 w7 bX cN _;have qq:∀ p∈ps++[(f,Value.slice a3 f.events.length dm)],w7.ownsRow w.heap.size 89 12 p.2 p.1.events.length (evCells p.1.events):=λ p hp=>by
       rw[List.mem_append] at hp;rcases hp with hp | hp
       ·exact Zg8 j8.out (Ze (HR.out.evs p hp) fK.out) ZJ cN
       ·have hp:p=(f,Value.slice a3 f.events.length dm):=by simpa using hp
        rw[hp];exact Zg8 j8.out sR.out ZJ cN
      have lR:RecRows w.heap.size w7 v7 (rs.take (j+1)) (ps++[(f,Value.slice a3 f.events.length dm)]):=⟨by rw[gE.out,List.map_append,HR.out.is_];rfl,by
       rw[gE.out,ZI,←HM.out,ZkH]
       exact bX,qq⟩
      have fd:Hid (Kept w.heap.size w w7):=ZH (⟨cZ.out.below.grown cN cZ.out.le (λ g hg=>(Zb j8.out hg).1),ZT cZ.out.le cN.size⟩);have uu:=ZH lR
      clear bX cN qq lR ))
   go_step3
   refine⟨rfl,?_,?_⟩
   ·rw[HJ.out];exact⟨j+1,ps++[(f,Value.slice a3 f.events.length dm)],_,_,_,_,_,_,_,_,_,_,_,_,_,_,_,_,_,_,_,_,_,_,ZO,by rw[←zl.out,Int.natCast_add],uu,fd⟩
   ·simp[intOf];omega
  ·obtain rfl:j=rs.length:=ZO;have F6:l.drop AT=(recBytes f0).take m:=by
    rw[HL.out,vO,List.take_length,List.drop_left]
   have FY:=ZcK H0.out;rw[F6] at kp;have tg:AT=(recsBytes rs).length:=by rw[vO,List.take_length]
   have Kk:Hid (rs.take rs.length=rs):=ZH (List.take_length);obtain⟨zl,jM⟩:=ZH2 tg (ZlH H0.out hm (kp.kept HK.out.below (ZL _)) FY);clear kp F6 vO tg FY dO;by_cases Lm:cap=AT;focus
    have pn:=jM.out;rw[if_pos Lm,show cap-AT=0 by omega,show n-AT=0 by omega] at pn;have qg:=ZH pn;clear pn jM;subst Lm
   rotate_left
   focus
    have pn:=jM.out;rw[if_neg Lm] at pn;have qg:=ZH pn;clear pn jM
   rotate_left
   all_goals
    go_wp2_with fail;refine qg.out.mono ?_;rintro _ w3 ⟨rfl,bZ⟩
    go_wp2_with (first
     |(refine Zy rfl 150 rfl (Za ⟨0,0,0,ZCz,[]⟩ (.slice none 0 0)) ZK ?_)
     |(refine wpList_store_row rfl 150 (.tmp 6) (.tmp 14) rfl w3.heap.size (Za ⟨0,0,0,ZCz,[]⟩ (.slice none 0 0)) rfl rfl 150 (Za ⟨0,0,0,ZCz,[]⟩ (.slice none 0 0)) (ZBn _ _ _) (Zat _ _) rfl (Zbc _ _ _ _) ?_
       have kC:Hid (Below w'.heap.size w' ((w3.alloc (.cells (Za ⟨0,0,0,ZCz,[]⟩ (.slice none 0 0)) 150)).setRow w3.heap.size (Za ⟨0,0,0,ZCz,[]⟩ (.slice none 0 0)))):=ZH (((Kept.start bZ).alloc _ |>.row bZ.size _).below)
       generalize (w3.alloc (.cells (Za ⟨0,0,0,ZCz,[]⟩ (.slice none 0 0)) 150)).setRow w3.heap.size (Za ⟨0,0,0,ZCz,[]⟩ (.slice none 0 0))=W5 at *))
    simp only[Exit.jump];go_ret2
    have hR:=HR.out;rw[Kk.out] at hR;rw[←zl.out];exact⟨_,ps,rfl,hR.below kC.out,(HK.out.trans ⟨kC.out,kC.out.size⟩ HK.out.le).below⟩
 ·intro hp;go_wp2_with fail;go_step3
  have e0:((recsBytes (rs.take 0)).length:Int)=0:=by simp[recsBytes]
  rename_i hK;refine hK _ _ (hp _ _ ?_);rw[HJ.out];exact⟨0,[],_,_,_,_,_,_,_,_,_,_,_,_,_,_,_,_,_,_,_,_,_,_,Nat.zero_le _,by rw[e0],ZH ⟨rfl,⟨rfl,.inl ⟨rfl,rfl⟩⟩,λ p hp=>by simp at hp⟩,ZH (ZKr w)⟩
structure Fl where
 to:Nat
 bytes:List Nat
def flCells(l:List (Nat × Value)):List Value:=l.flatMap λ p=>[.int .i64 (p.1:Int),p.2]
theorem Zes:∀ l:List (Nat × Value),(flCells l).length=l.length*2
 | []=>rfl
 | p::l=>by
  have h:=Zes l;have e:flCells (p::l)=[.int .i64 (p.1:Int),p.2]++flCells l:=rfl;rw[e,ZI,h];simp;omega
structure LinkAt(own:Own)(t:Nat)(w:World)(p:Nat)(fs:List Fl):Prop where
 mine:own p=t
 ex:∃ v ps,Blk w p 127 #[v]/\w.ownsRow 0 136 2 v fs.length (flCells ps)/\(∀ g,v.ownBlock=some g->own g=t)/\ps.length=fs.length /\
  ∀ (i:Nat) (f:Fl),fs[i]? = some f->∃ x,ps[i]? = some (f.to,x)/\RowB own 0 w x f.bytes
theorem LinkAt.upd{T:Nat->Prop}{own own':Own}{w w':World}{t p:Nat}{fs:List Fl}(h:LinkAt own t w p fs)(hu:Upd T own own' w w')(ht:¬ T t)(h0:¬ T 0):LinkAt own' t w' p fs:=by
 obtain⟨h1,v,ps,h2,h3,h4,h5,h6⟩:=h;refine⟨by rw[hu.old p h2.lt];exact h1,v,ps,h2.upd hu (by rw[h1];exact ht),Zh h3 (λ g hg hl=>hu.same g hl (by rw[h4 g hg];exact ht)),λ g hg=>by rw[hu.old g (Zb h3 hg).2];exact h4 g hg,h5,λ i f hf=>?_⟩;obtain⟨x,hx,hr⟩:=h6 i f hf;exact⟨x,hx,hr.upd hu h0⟩
theorem ZmV:(prog.info? 136).map (λ i=>(i.zero,i.size,i.bytes))=some (some (.agg #[.int .i64 0,.slice none 0 0]),2,32):=ZK
theorem Zqu{own:Own}{t:Nat}{w:World}(hf:Fresh own w):Calls prog 29 #[] w λ r w'=>∃ own',r = .returned (.pointer (some ⟨w.heap.size,0,none⟩))/\LinkAt own' t w' w.heap.size []/\Upd (· = t) own own' w w':=by
 have HF:=ZH hf;clear hf;go_enter func29,ntmps29;go_wp2
 go_ret;have hk:=(ZKr w).alloc (.cells #[.slice none 0 0] 127);refine⟨own.at_ w.heap.size t,rfl,⟨by unfold Own.at_;simp,.slice none 0 0,[],ZBn _ _ _,⟨rfl,.inl ⟨rfl,rfl⟩⟩,λ g hg=>(by cases hg),rfl,λ i f hf=>(by simp at hf)⟩,(ZUb (T:=(· = t)) hk.below HF.out).am (ZL _) ZM t⟩
theorem Zqt{own:Own}{t p:Nat}{w:World}{fs:List Fl}(h:LinkAt own t w p fs):Calls prog 146 #[.pointer (some ⟨p,0,none⟩)] w (Zv (.int .i64 fs.length) w):=by
 obtain⟨_,v,ps,hb,hr,_⟩:=h;have hv:∃ a cap,v = .slice a fs.length cap:=by
  rcases hr.2 with ⟨h1,h2⟩|⟨g,cp,_,h1,_⟩
  ·exact⟨none,0,by rw[h2];exact h1⟩
  ·exact⟨_,cp,h1⟩
 obtain⟨a,cap,rfl⟩:=hv;have c0:=hb.cell 0;simp only[ZD,ZE] at c0;have ce:=hb.lt;clear hb hr;go_enter func146,ntmps146;go_wp2
 go_ret;exact⟨rfl,ZW _ _⟩
theorem Zj7{own:Own}{t p:Nat}{w:World}{fs:List Fl}(h:LinkAt own t w p fs)(hf:Fresh own w)(jQ:fs.length<=1000000)(F5:t≠0)(to:Nat){a:Option Addr}{n cap:Nat}{l:List Nat}(hb:Bytes w a n cap l)(hn:n<=1000000000):
  Calls prog 72 #[.pointer (some ⟨p,0,none⟩),.int .i64 to,.slice a n cap] w λ r w'=>r = .returned (.tuple #[])/\∃ own',LinkAt own' t w' p (fs++[⟨to,l⟩])/\Upd (· = t) own own' w w':=by
 obtain⟨hm,v,ps,i4,hr,xh,fQ,gj⟩:=h;have hv:∃ av cv,v = .slice av fs.length cv:=by
  rcases hr.2 with ⟨h1,h2⟩|⟨g,cp,_,h1,_⟩
  ·exact⟨none,0,by rw[h2];exact h1⟩
  ·exact⟨_,cp,h1⟩
 obtain⟨av,cv,rfl⟩:=hv;obtain⟨i0,hi,cM,cG,cK⟩:=info_parts ZmV;have c0:=i4.cell 0;simp only[ZD,ZE] at c0;have ce:=i4.lt;obtain⟨HB,HM,qM,HR,zZ,kS,ij,HF⟩:=ZH8 (hb.kept (ZW w.heap.size w).drew (ZL _)) hm i4 hr xh fQ gj hf;clear hm i4 hr xh fQ gj hb hf;obtain⟨M,hM⟩:∃ M,M=fs.length:=⟨_,rfl⟩;rw[←hM] at HR qM zZ c0 jQ;have oU:=ZH hM;clear hM;go_enter func72,ntmps72;go_wp2_with fail;refine ZSi [(0,3),(1,3),(2,0),(3,3),(4,0),(5,3),(6,3),(7,1),(8,3),(9,1),(10,2),(11,3),(12,3),(13,2)] λ bR=>?_
 repeat((first | refine ZSa ?_ | refine ZSb ?_ | refine ZSc ?_);simp only[Act.put,ZA,ZB,ZC])
 refine ZSd λ K hK=>?_
 go_simp;refine(Zeo HB.out hn).mono ?_;rintro _ w2 ⟨v2,rfl,dC,bW⟩;have cJ:=bR.step bW;obtain⟨a2,dg,rfl,_⟩:=Bytes.ab dC;obtain⟨eU,cr⟩:=ZH2 dC cJ;refine hK.out (λ w'=>Kept w2.heap.size w2 w') _ _ (λ _ h=>cJ.trans h cJ.le) (ZKr w2) (λ bT=>?_);clear hK K bR bW cJ dC;repeat((first | refine ZSa ?_ | refine ZSb ?_ | refine ZSc ?_);simp only[Act.put,ZA,ZB,ZC])
 refine ZSd λ K hK=>?_
 go_simp;have Ec:=ZBn w2 136 #[.int .i64 (to:Int),.slice a2 l.length dg];have iH:Hid (Reads (w2.alloc (.cells #[.int .i64 (to:Int),.slice a2 l.length dg] 136)) (w2.alloc (.cells #[.int .i64 (to:Int),.slice a2 l.length dg] 136)).heap.size 2 (some ⟨w2.heap.size,0,none⟩) 1 [.int .i64 (to:Int),.slice a2 l.length dg]):=ZH (Reads.ao Ec rfl)
 have iz:Hid (∀ u∈[Value.int .i64 (to:Int),.slice a2 l.length dg],u.oneCell'=true):=ZH (λ u hu=>by
  simp at hu
  rcases hu with rfl | rfl <;> rfl)
 refine hK.out (λ w'=>Kept w2.heap.size w2 w') _ _ (λ _ h=>h) (bT.alloc _) (λ bR=>?_);clear hK K bT Ec;repeat((first | refine ZSa ?_ | refine ZSb ?_ | refine ZSc ?_);simp only[Act.put,ZA,ZB,ZC])
 refine ZSe λ K hK=>?_
 have nN:Below w.heap.size w (w2.alloc (.cells #[.int .i64 (to:Int),.slice a2 l.length dg] 136)):=(cr.out.alloc _).below;have Cg:=Ze HR.out nN;refine ZaT _ (.tmp 10) (.tmp 15) _ rfl 0 136 i0 _ 2 32 underlying125 hi cM cG cK rfl ZO (.slice av M cv) M (flCells ps) rfl Cg _ (some ⟨w2.heap.size,0,none⟩) 1 1 [.int .i64 (to:Int),.slice a2 l.length dg] rfl iH.out iz.out ZF ZO (Nat.zero_le _) ?_;intro v3 w3 dB ir na;have co:Upd (· = t) own own w (w2.alloc (.cells #[.int .i64 (to:Int),.slice a2 l.length dg] 136)):=ZUb (T:=(· = t)) nN HF.out;have cO:=co.grow (t:=t) rfl zZ.out (λ g hg=>(Zb dB hg).2) ir na;have fg:=(qM.out.ob nN).grown ir (Ne.symm (Zo HR.out qM.out ZJ));obtain⟨cg,du⟩:∃ cg,cg=own.put v3 t:=⟨_,rfl⟩;rw[←du] at cO;have En:cg p=t:=by rw[cO.1.old p ce];exact HM.out
 have Ge:∀ g,v3.ownBlock=some g->cg g=t:=λ g hg=>by
  rw[du];unfold Own.put;rw[if_pos hg]
 have yM:RowB cg 0 w3 (.slice a2 l.length dg) l:=⟨Zi (Zg8 Cg (eU.out.alloc (.cells #[.int .i64 (to:Int),.slice a2 l.length dg] 136)) ZJ ir) (Nat.zero_le _),λ g hg=>by
  have iV:=Zb eU.out hg;have h1:w.heap.size<=g:=iV.1;rw[cO.2 g ZP]
  exact HF.out g h1⟩
 have FI:∀ (i:Nat) (f:Fl),(fs++[(⟨to,l⟩:Fl)])[i]? = some f->∃ x,(ps++[(to,Value.slice a2 l.length dg)])[i]? = some (f.to,x)/\RowB cg 0 w3 x f.bytes:=λ i f hf=>by
  rcases Nat.lt_or_ge i fs.length with ce | my
  ·rw[List.getElem?_append_left ce] at hf;rw[List.getElem?_append_left (by rw[kS.out];exact ce)];obtain⟨x,hx,qJ⟩:=ij.out i f hf;exact⟨x,hx,qJ.upd cO.1 (λ h=>F5 h.symm)⟩
  ·rw[List.getElem?_append_right my] at hf;rw[List.getElem?_append_right (by rw[kS.out];exact my),kS.out];have wC:i-fs.length=0:=by
    have:=(ZZ.1 hf).1;simp at this;omega
   rw[wC] at hf ⊢;have hf:(⟨to,l⟩:Fl)=f:=by simpa using hf
   subst hf;exact⟨_,rfl,yM⟩
 obtain⟨a3,dm,rfl⟩:∃ a cap,v3 = .slice a (M+1) cap:=by
  rcases dB.2 with ⟨h1,h2⟩|⟨g,cp,_,h1,_⟩
  ·omega
  ·exact⟨_,cp,h1⟩
 have bU:=fg.cell 0;have gA:=fg.frozen 0;simp only[ZD,ZE] at bU;have np:=fg.lt;obtain⟨jl,dj,dI,kD,Kq,J2⟩:=ZH6 dB fg cO.1 En Ge FI;clear dB fg co cO En Ge FI yM ir na du Cg nN;refine hK.out _ _ ?_;clear hK K bR;repeat((first | refine ZSa ?_ | refine ZSb ?_ | refine ZSc ?_);simp only[Act.put,ZA,ZB,ZC])
 refine ZSe λ K hK=>?_
 go_simp;refine hK.out _ _ ?_;clear hK K;refine ZSf ?_;go_wp2_with fail;go_end0
 have fp:Upd (· = t) cg cg w3 (w3.setCell ⟨p,0,none⟩ (.slice a3 (M+1) dm)):=(Upd.refl (· = t) cg w3 dI.out.fresh).setCell (p:=⟨p,0,none⟩) (λ _=>kD.out) _;refine⟨rfl,cg,⟨kD.out,_,ps++[(to,Value.slice a2 l.length dg)],dj.out.ai 0 _,?_,Kq.out,by rw[ZI,ZI,kS.out];rfl,λ i f hf=>?_⟩,dI.out.setCell (p:=⟨p,0,none⟩) (λ _=>HM.out) _⟩
 ·rw[ZI,←oU.out,show flCells (ps++[(to,Value.slice a2 l.length dg)])=flCells ps++[.int .i64 (to:Int),.slice a2 l.length dg] by simp[flCells]];exact Zh jl.out (λ g hg _=>Below.heap_setCell _ _ _ _ (λ he=>Zo jl.out dj.out ZJ (by rw[hg,he])))
 ·obtain⟨x,hx,qJ⟩:=J2.out i f hf;exact⟨x,hx,qJ.upd fp (λ h=>F5 h.symm)⟩
theorem ZhO:∀ (l:List (Nat × Value)) (i:Nat) (p:Nat × Value),l[i]? = some p->(flCells l)[i*2]? = some (.int .i64 (p.1:Int))/\(flCells l)[i*2+1]? = some p.2
 | [],i,p,h=>by simp at h
 | x::l,0,p,h=>by
  have hx:x=p:=by simpa using h
  subst hx;exact⟨rfl,rfl⟩
 | x::l,i+1,p,h=>by
  have ih:=ZhO l i p (by simpa using h);have e:flCells (x::l) = .int .i64 (x.1:Int)::x.2::flCells l:=rfl;rw[e,show(i+1)*2=i*2+1+1 by omega,show i*2+1+1+1=(i*2+1)+1+1 by omega];exact ih
theorem ZfK{own:Own}{t p:Nat}{w:World}{fs:List Fl}(h:LinkAt own t w p fs)(i:Int)(hi:i<0∨(fs.length:Int)<=i):
  Calls prog 59 #[.pointer (some ⟨p,0,none⟩),.int .i64 i] w (Zv (.tuple #[.agg #[.int .i64 0,.slice none 0 0],.int .i64 24]) w):=by
 obtain⟨_,v,ps,hb,hr,_⟩:=h;have hv:∃ a cap,v = .slice a fs.length cap:=by
  rcases hr.2 with ⟨h1,h2⟩|⟨g,cp,_,h1,_⟩
  ·exact⟨none,0,by rw[h2];exact h1⟩
  ·exact⟨_,cp,h1⟩
 obtain⟨a,cap,rfl⟩:=hv;have c0:=hb.cell 0;simp only[ZD,ZE] at c0;have ce:=hb.lt;obtain⟨HK,HX⟩:=ZH2 ((ZKr w).alloc (.cells #[.int .i64 0,.slice none 0 0] 136)) (ZBn w 136 #[.int .i64 0,.slice none 0 0]);clear hb hr;rcases Int.lt_or_le i 0 with wP | eL
 rotate_left
 focus
  have my:(fs.length:Int)<=i:=ZO;have hn:¬ (i<0):=ZO;clear hi
 rotate_left
 all_goals
  go_enter func59,ntmps59;go_wp2_with fail;refine bodyPost_ret (Zn rfl rfl rfl (run_loadVar_row _ _ _ _ _ _ _ HX.out underlying136 rfl ZK)) rfl ?_;exact⟨rfl,HK.out.below⟩
theorem Zj6{own:Own}{t p:Nat}{w:World}{fs:List Fl}(h:LinkAt own t w p fs)(i:Nat){f:Fl}(hf:fs[i]? = some f)(hl:f.bytes.length<=1000000000):
  Calls prog 59 #[.pointer (some ⟨p,0,none⟩),.int .i64 i] w λ r w'=>∃ x,r = .returned (.tuple #[.agg #[.int .i64 f.to,x],.int .i64 0])/\w'.ownsRow w.heap.size 5 1 x f.bytes.length (cells f.bytes)/\Below w.heap.size w w':=by
 have nQ:i<fs.length:=(ZZ.1 hf).1;obtain⟨_,v,ps,hb,hr,xh,fQ,gj⟩:=h;obtain⟨x,hx,qJ⟩:=gj i f hf;obtain⟨ax,cx,rfl,fH⟩:=Bytes.ab qJ.row;obtain⟨g0,g1⟩:=ZhO ps i _ hx;have hv:∃ g cap,v = .slice (some ⟨g,0,none⟩) fs.length cap/\g<w.heap.size/\w.cell? ⟨g,i*2,none⟩=some (.int .i64 (f.to:Int))/\w.cell? ⟨g,i*2+1,none⟩=some (.slice ax f.bytes.length cx):=by
  have ce:=Zb hr (g:=match v with | .slice (some a) _ _=>a.block | _=>0);rcases hr.2 with ⟨h1,h2⟩|⟨g,cp,cur,h1,_,cQ,_⟩
  ·omega
  ·subst h1;refine⟨g,cp,rfl,(show Blk w g _ cur from cQ).lt,?_,?_⟩
   ·have h:=hr.cellAt (i*2) ZO;rw[g0] at h;simpa using h
   ·have h:=hr.cellAt (i*2+1) ZO;rw[g1] at h;simpa using h
 obtain⟨g,cap,rfl,eB,k0,k1⟩:=hv;have c0:=hb.cell 0;simp only[ZD,ZE] at c0;have ce:=hb.lt;have HK:=ZH ((ZKr w).alloc (.cells #[.int .i64 0,.slice none 0 0] 136));have jX:=ZBn w 136 #[.int .i64 0,.slice none 0 0];obtain⟨HX,iX⟩:=ZH2 jX fH;have wC:¬ ((i:Int)<0):=ZO;have yr:¬ ((fs.length:Int)<=(i:Int)):=ZO;have LG:(i:Int)<(fs.length:Int):=ZO;have O6:(0:Int)<=(i:Int):=ZO;clear hb hr jX gj qJ fH g0 g1 hx;go_enter func59,ntmps59;go_wp2_with fail;obtain⟨W,hW⟩:∃ W,W=(w.alloc (.cells #[.int .i64 0,.slice none 0 0] 136)).alloc (.cells #[.int .i64 (f.to:Int),.slice ax f.bytes.length cx] 136):=⟨_,rfl⟩;rw[←hW];have p7:Blk W (w.heap.size+1) 136 #[.int .i64 (f.to:Int),.slice ax f.bytes.length cx]:=by rw[hW];exact Z6 w _ _ _
 have jX:Blk W w.heap.size 136 #[.int .i64 0,.slice none 0 0]:=by rw[hW];exact HX.out.alloc _
 have rA:Kept w.heap.size w W:=by rw[hW];exact HK.out.alloc _
 obtain⟨e0,e1⟩:=p7.two;have A5:=p7.lt;obtain⟨rX,xA,uY,uv⟩:=ZH4 jX rA ((iX.out.kept rA.below (ZL _)).kept (ZW W.heap.size W).drew (ZL _)) (jX.lt);clear p7 jX rA hW HX HK c0 k0 k1;refine ZSi [(0,3),(1,0),(2,3),(3,0),(4,1),(5,3),(6,2),(7,3)] λ bR=>?_
 repeat((first | refine ZSa ?_ | refine ZSb ?_ | refine ZSc ?_);simp only[Act.put,ZA,ZB,ZC])
 refine ZSd λ K hK=>?_
 go_simp;refine(Zeo uY.out hl).mono ?_;rintro _ w2 ⟨v2,rfl,dC,bW⟩;have cJ:=bR.step bW;obtain⟨a2,dg,rfl,_⟩:=Bytes.ab dC;have nE:=rX.out.ob cJ.below;obtain⟨m0,m1⟩:=nE.two;have f0:=nE.frozen 0;have f1:=nE.frozen 1;have iV:=nE.lt;obtain⟨eU,cr,pz⟩:=ZH3 dC (xA.out.trans cJ xA.out.le) nE;refine hK.out (λ w'=>Kept W.heap.size W w') _ _ (λ _ h=>h) cJ (λ bT=>?_);clear hK K bR bW cJ dC nE bT;repeat((first | refine ZSa ?_ | refine ZSb ?_ | refine ZSc ?_);simp only[Act.put,ZA,ZB,ZC])
 refine ZSe λ K hK=>?_
 go_simp;refine hK.out _ _ ?_;clear hK K;repeat((first | refine ZSa ?_ | refine ZSb ?_ | refine ZSc ?_);simp only[Act.put,ZA,ZB,ZC])
 refine ZSf ?_;go_wp2_with fail;have dx:=(pz.out.ai 0 (.int .i64 (f.to:Int))).ai 1 (.slice a2 f.bytes.length dg);refine bodyPost_ret (Zn rfl rfl rfl (run_loadVar_row _ _ _ _ _ _ _ dx underlying136 rfl ZK)) rfl ?_;have dz:∀ g',(Value.slice a2 f.bytes.length dg).ownBlock=some g'->g'≠w.heap.size:=λ g' kf e=>by
  have h1:W.heap.size<=g':=(Zb eU.out kf).1;have:=uv.out;omega
 exact⟨_,rfl,Zi (Zh eU.out (λ g' kf _=>(Below.heap_setCell _ _ _ _ (dz g' kf)).trans (Below.heap_setCell _ _ _ _ (dz g' kf)))) (show w.heap.size<=W.heap.size from xA.out.le),((cr.out.setCell (p:=⟨w.heap.size,0,none⟩) (ZL _) _).setCell (p:=⟨w.heap.size,1,none⟩) (ZL _) _).below⟩
end Go.Proofs.YtjkfognelhiepaaGreat
