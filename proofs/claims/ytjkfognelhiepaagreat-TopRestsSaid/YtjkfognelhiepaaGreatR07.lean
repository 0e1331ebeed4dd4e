import Derived.Test.YtjkfognelhiepaaGreatR06
namespace Go.Proofs.YtjkfognelhiepaaGreat
open Go.RowKit _root_.Go.Proofs.Tryz
open Value renaming slice→S_,int→I_,bool→B_,string→T_,pointer→P_
open IntKind renaming i64→J_
open Obj renaming cells→C_
open Ending renaming returned→R_
set_option maxRecDepth 100000
set_option maxHeartbeats 8000000
variable{a:Option Addr}{cap j n:Nat}{f:Frm}{l:List Nat}{w:World}
def Zgm(c:Clk):Nat->Clk
 | 0=>ZCz
 |j+1=>(Zgm c j).set j (c.get j)
theorem ZfJ(c:Clk):Zgm c 5=c:=rfl
theorem Znu(c:Clk)(h:j<=5):∃S,Zz c 5=Zz c j++S:=by
 rcases(by omega:j=0∨j=1∨j=2∨j=3∨j=4∨j=5) with rfl|rfl|rfl|rfl|rfl|rfl
 ·exact⟨_,rfl⟩
 ·exact⟨Zd (c.get 1)++Zd (c.get 2)++Zd (c.get 3)++Zd (c.get 4),by simp[Zz]⟩
 ·exact⟨Zd (c.get 2)++Zd (c.get 3)++Zd (c.get 4),by simp[Zz]⟩
 ·exact⟨Zd (c.get 3)++Zd (c.get 4),by simp[Zz]⟩
 ·exact⟨Zd (c.get 4),by simp[Zz]⟩
 ·exact⟨[],ZM⟩
theorem ZgN(c:Clk)(h:j<5):(Zz c 5).drop (Zz c j).length=Zd (c.get j)++(Zz c 5).drop (Zz c (j+1)).length:=by
 obtain⟨S,hS⟩:=Znu c (j:=j+1) h;have h2:Zz c 5=Zz c j++(Zd (c.get j)++S):=by
  rw[hS];simp[Zz]
 have e1:(Zz c 5).drop (Zz c j).length=Zd (c.get j)++S:=by rw[h2,List.drop_left]
 have e2:(Zz c 5).drop (Zz c (j+1)).length=S:=by rw[hS,List.drop_left]
 rw[e1,e2]
theorem ZgX(k r u:Nat)(c:Clk)(es:List Ev)(v:Value)(h:j<5)(x:Nat):(Za ⟨k,r,u,c,es⟩ v).setIfInBounds (3+j) (I_ J_ (x:Int))=Za ⟨k,r,u,c.set j x,es⟩ v:=by
 rcases(by omega:j=0∨j=1∨j=2∨j=3∨j=4) with rfl|rfl|rfl|rfl|rfl <;> rfl
theorem ZgW(k r u:Nat)(c:Clk)(es:List Ev)(v:Value)(h:j<5):(Za ⟨k,r,u,c,es⟩ v)[3+j]? = some (I_ J_ (c.get j)):=by
 rcases(by omega:j=0∨j=1∨j=2∨j=3∨j=4) with rfl|rfl|rfl|rfl|rfl <;> rfl
theorem Zaz(f:Frm)(v:Value):(prog.info? 158).map (λi=>i.size)=some (Za f v).size:=ZK
theorem Zbt(f:Frm)(a:Option Addr)(n c:Nat):(Za f (S_ a n c)).all (·.oneCell')=true:=by
 rw[Array.all_eq_true_iff_forall_mem];intro v hv;simp at hv;rcases hv with rfl|rfl|rfl|rfl|rfl|rfl|rfl|rfl|rfl <;> rfl
theorem ZfR(P T:List Nat)(x y:Nat):(P++x::y::T).getD P.length 0=x/\(P++x::y::T).getD (P.length+1) 0=y/\(P++x::y::T).drop (P.length+2)=T:=by
 refine⟨?_,?_,?_⟩
 ·rw[List.getD_eq_getElem?_getD,List.getElem?_append_right (ZL _)];simp
 ·rw[List.getD_eq_getElem?_getD,List.getElem?_append_right ZO,show P.length+1-P.length=1 by omega];rfl
 ·rw[←List.drop_drop,List.drop_left];rfl
theorem ZnD(h:f.Ok)(dZ:f.kind=2)(hb:Bytes w a n cap l)(hl:l=Zd (Zam f).length++Zam f):
  Calls prog 137 #[S_ a n cap] w λr w'=>∃v,r=R_ (.tuple #[Zah f v,B_ true])/\w'.ownsRow w.heap.size 89 12 v f.events.length (evCells f.events)/\Below w.heap.size w w':=by
 have cY:∀x∈l,x<256:=λx hx=>by
  rw[hl,List.mem_append]at hx;rcases hx with hx|hx
  ·exact ZaH _ x hx
  ·exact Zbj h x hx
 have cW:=ZbP h;obtain⟨kind,r,upto,clock,events⟩:=f;simp only[]at dZ;subst dZ;have hr:=h.r;have dJ:=h.upto;have fX:=h.len;simp only[]at hr dJ fX;have eo:clock=ZCz:=h.clock0 ZM ZM;have li:events=[]:=h.events0 ZM ZM;subst eo li;obtain⟨T,hT⟩:∃T,T=(Zd upto):=⟨_,rfl⟩;obtain⟨BD,n9⟩:∃BD,BD=Zam ⟨2,r,upto,ZCz,[]⟩:=⟨_,rfl⟩;have eJ:BD=2::r::T:=by rw[n9,hT];rfl
 rw[←n9]at hl cW;have wh:1<=T.length:=by
  rw[hT];first|exact Zac _|(have:=Zac (clock.get 4);simp only[Zz,ZI];omega)|(simp)
 have pm:BD.length=T.length+2:=by rw[eJ];rfl
 have wi:T.length<=1298:=ZO;have fm:=hb.len;have lu:(Zd BD.length).length+(2+T.length)=n:=by
  rw[←fm,hl,ZI,pm];omega
 obtain⟨b,off,rfl,cH,cB⟩:=hb.pos ZO;have gG:=hb.1;have cz:=hb.kept ((ZW w.heap.size w).alloc (ZL _) (C_ (Za ⟨0,0,0,ZCz,[]⟩ (S_ none 0 0)) 158)) (ZL _);have jq:=ZH (Zc8 cz cY);have gD:=Zc9 BD.length BD ZO;rw[←hl]at gD;have gx:=Zab 2 BD.length ZO;obtain⟨g1,g2,g3⟩:=ZfR (Zd BD.length) T 2 r;rw[←eJ,←hl]at g1 g2 g3;obtain⟨k,hk⟩:∃k,k=(Zd BD.length).length:=⟨_,rfl⟩;rw[←hk]at g1 g2 g3 gD lu gx;have k0:=cB k ZO;have k1:=cB (k+1) ZO;rw[g1]at k0;rw[g2]at k1;have dl:=hb.rest (k:=k+2) ZO;rw[ZPn ZO,g3]at dl;have gK:∀x∈T,x<256:=λx hx=>cY x (by rw[←g3]at hx;exact List.mem_of_mem_drop hx)
 obtain⟨H,mj,gI,HT,eZ⟩:=ZH5 h gD dl hT gK;have lw:(k:Int)<(n:Int):=ZO;have lR:(k:Int)+1<(n:Int):=ZO;have lS:(k:Int)+2<=(n:Int):=ZO;have lT:(k:Int)+2<=(cap:Int):=ZO;have cR:(0:Int)<=(k:Int):=ZO;have dI:(0:Int)<=(k:Int)+1:=ZO;have cX:(0:Int)<=(k:Int)+2:=ZO;have yE:((k:Int)+1).toNat=k+1:=ZO;have D8:((k:Int)+2).toNat=k+2:=ZO;have jv:IntKind.i64.wrap ((n:Int)-(k:Int))=(n:Int)-(k:Int):=by rw[IntKind.wrap_i64];omega
 have dD:IntKind.i64.wrap ((k:Int)+1)=(k:Int)+1:=by rw[IntKind.wrap_i64];omega
 have ee:IntKind.i64.wrap ((k:Int)+2)=(k:Int)+2:=by rw[IntKind.wrap_i64];omega
 have oJ:IntKind.i64.wrap (r:Int)=(r:Int):=by rw[IntKind.wrap_i64];omega
 have jt:¬((n:Int)-(k:Int)<2):=ZO;have kf:¬(cap=k+2):=ZO;clear h hb cz hl gD cB dl cY fm n9 hk eJ pm hT g1 g2 g3 gK;go_enter func137,ntmps137;go_wp2_with fail;refine jq.out.mono ?_;rintro e w1 hP;obtain⟨rfl,rfl⟩:e=R_ (.tuple #[.int .u64 (BD.length:Nat),I_ J_ (k:Nat),I_ J_ ((0:Nat):Int)])/\_=w1:=by
  have gB:=hP;unfold Za0 at gB;rw[mj.out]at gB;exact gB
 clear hP;obtain⟨w1,dn⟩:∃w1,w1=w.alloc (C_ (Za ⟨0,0,0,ZCz,[]⟩ (S_ none 0 0)) 158):=⟨_,rfl⟩;have fe:Kept w.heap.size w w1:=by rw[dn];exact(ZKr w).alloc _
 have gJ:Blk w1 w.heap.size 158 (Za ⟨0,0,0,ZCz,[]⟩ (S_ none 0 0)):=by rw[dn];exact ZBn _ _ _
 obtain⟨da,fO⟩:=ZH2 fe gJ;clear fe gJ;go_wp2_with fail;rw[←dn];have nu:b<w1.heap.size:=ZR cH da.out.le;have nF:w1.cell? ⟨b,off+k,none⟩=some (.int .u8 ((2:Nat):Int)):=by rw[da.out.cells b _ cH];exact k0
 have nG:w1.cell? ⟨b,off+(k+1),none⟩=some (.int .u8 (r:Int)):=by rw[da.out.cells b _ cH];exact k1
 have gk:=ZH dn;clear dn k0 k1;have vN:IntKind.i64.wrap (2:Int)=2:=by rw[IntKind.wrap_i64];omega
 refine ZSi [(0,3),(1,3),(2,3),(3,0),(4,3),(5,3),(6,3),(7,3),(8,3),(9,0),(10,3),(11,3),(12,1),(13,2)] λcu=>?_
 repeat((first|refine ZSa ?_|refine ZSb ?_|refine ZSc ?_);simp only[Act.put,Q_])
 refine ZSd λK hK=>?_
 go_simp;refine hK.out (λw'=>Kept w1.heap.size w1 w') _ _ (λ_ h=>h) (cu.alloc _) (λcA=>?_);clear hK K cu;repeat((first|refine ZSa ?_|refine ZSb ?_|refine ZSc ?_);simp only[Act.put,Q_])
 refine ZSe λK hK=>?_
 go_simp;refine hK.out _ _ ?_;clear hK K;refine ZSf ?_;obtain⟨w2,di⟩:∃w2,w2=(w1.alloc (C_ (Za ⟨2,r,0,ZCz,[]⟩ (S_ none 0 0)) 158)).drew:=⟨_,rfl⟩;change Exit.then _ _ Exit.normal _ ((w1.alloc (C_ (Za ⟨2,r,0,ZCz,[]⟩ (S_ none 0 0)) 158)).drew);rw[←di];have fU:Blk w2 w1.heap.size 158 (Za ⟨2,r,0,ZCz,[]⟩ (S_ none 0 0)):=by rw[di];exact(ZBn _ _ _).drew
 have gU:Kept w.heap.size w w2:=by rw[di];exact(da.out.alloc _).drew
 have gm:Blk w2 w.heap.size 158 (Za ⟨0,0,0,ZCz,[]⟩ (S_ none 0 0)):=by rw[di];exact(fO.out.alloc _).drew
 have oR:w.heap.size<w1.heap.size:=fO.out.lt;obtain⟨c0,c1,c2,c3,c4,c5,c6,c7,c8⟩:=fU.nine;have fE:=fU.lt;obtain⟨j9,cO,fP⟩:=ZH3 fU gU gm;clear fU gU gm di cA nF nG;generalize w1.heap.size=G at *;go_wp2_with fail;refine(ZcL 2 ZO ZO _).mono ?_;rintro _ w3 ⟨rfl,cG⟩;rw[show Zbo 2=.agg #[B_ false,B_ true,B_ false] from rfl];obtain⟨jy,fk⟩:=ZH2 ((j9.out.ob cG).alloc (C_ #[B_ false,B_ true,B_ false] 225)) ((fP.out.ob cG).alloc (C_ #[B_ false,B_ true,B_ false] 225));have lM:=(cO.out.step cG).alloc (C_ #[B_ false,B_ true,B_ false] 225);obtain⟨iI,dN⟩:=ZH2 (ZBn w3 225 #[B_ false,B_ true,B_ false]) (gI.out.kept lM.below (ZL _));have jF:=(j9.out.ob cG).lt;have cU:=ZH lM;clear lM cG c0 c1 c2 c3 c4 c5 c6 c7 c8 fE;go_wp2_with fail;refine(ZfQ dN.out eZ.out upto dJ [] (by rw[HT.out,List.append_nil])).mono ?_;rintro _ w4 ⟨rfl,cS⟩;have gg:=jy.out.ob cS;obtain⟨c0,c1,c2,c3,c4,c5,c6,c7,c8⟩:=gg.nine;have f2:=gg.frozen 2;have jA:=ZH (iI.out.ob cS);have fE:=gg.lt;obtain⟨gS,dw⟩:=ZH2 (fk.out.ob cS) (cU.out.step cS);have mY:w.heap.size≠G:=ZO;have xH:w3.heap.size≠G:=ZO;have nH:=ZH gg;clear gg cS;obtain⟨W5,ir⟩:∃W5,W5=w4.setCell ⟨G,2,none⟩ (I_ J_ (upto:Int)):=⟨_,rfl⟩;have nM:Blk W5 G 158 (Za ⟨2,r,upto,ZCz,[]⟩ (S_ none 0 0)):=by rw[ir];exact nH.out.aj 2 _
 have qL:Blk W5 w3.heap.size 225 #[B_ false,B_ true,B_ false]:=by rw[ir];exact jA.out.far xH _
 have zu:Blk W5 w.heap.size 158 (Za ⟨0,0,0,ZCz,[]⟩ (S_ none 0 0)):=by rw[ir];exact gS.out.far mY _
 have ti:Kept w.heap.size w W5:=by rw[ir];exact dw.out.setCell (by show w.heap.size<=G;omega) _
 obtain⟨d0,d1,d2⟩:=qL.three;obtain⟨x0,x1,x2⟩:=jA.out.three;have sG:=qL.lt;have zS:=jA.out.lt;obtain⟨nI,io,fN,qD⟩:=ZH4 nM zu ti ir;clear nM qL zu ti ir;go_wp2_with fail;rw[←qD.out];go_loopw [9,10,72] (λok _ i wr=>∃j:Nat,j<=5/\i=I_ J_ j/\ok=B_ true/\wr=W5) (λ_ _ i _=>5-(intOf i).toNat)
 case atStart=>exact⟨0,ZO,rfl,rfl,rfl⟩
 case round =>
  obtain⟨j,hj,rfl,rfl,rfl⟩:=hrel;by_cases rF:j<5
  ·have DZ:(j:Int)<5:=ZO;go_wp2
   go_roundw
   case rel=>exact⟨j+1,ZO,ZN,rfl,by first|rfl|trivial⟩
   case measure=>simp[intOf];omega
  ·obtain rfl:j=5:=ZO
   go_wp2_with (first
    |(refine wpList_load_row rfl 158 (.tmp 7) rfl G rfl 158 (Za ⟨2,r,upto,ZCz,[]⟩ (S_ none 0 0)) (0,0) _ nI.out underlying158 rfl (Zaz _ _) ?_)
    |(refine wpList_store_row rfl 158 (.tmp 2) (.tmp 93) rfl w.heap.size (Za ⟨2,r,upto,ZCz,[]⟩ (S_ none 0 0)) rfl rfl 158 (Za ⟨0,0,0,ZCz,[]⟩ (S_ none 0 0)) io.out (Zaz _ _) rfl (Zbt _ _ _ _) ?_))
   refine bodyPost_ret (Zq rfl rfl rfl (run_loadVar_row _ _ _ _ _ _ _ (io.out.row _) underlying158 rfl (Zaz _ _))) rfl ?_;exact⟨(S_ none 0 0),rfl,⟨rfl,.inl ⟨rfl,rfl⟩⟩,(fN.out.row (ZL _) _).below⟩
theorem ZnE(h:f.Ok)(dZ:f.kind=3)(hb:Bytes w a n cap l)(hl:l=Zd (Zam f).length++Zam f):
  Calls prog 137 #[S_ a n cap] w λr w'=>∃v,r=R_ (.tuple #[Zah f v,B_ true])/\w'.ownsRow w.heap.size 89 12 v f.events.length (evCells f.events)/\Below w.heap.size w w':=by
 have cY:∀x∈l,x<256:=λx hx=>by
  rw[hl,List.mem_append]at hx;rcases hx with hx|hx
  ·exact ZaH _ x hx
  ·exact Zbj h x hx
 have cW:=ZbP h;obtain⟨kind,r,upto,clock,events⟩:=f;simp only[]at dZ;subst dZ;have hr:=h.r;have dJ:=h.upto;have fX:=h.len;simp only[]at hr dJ fX;have dt:upto=0:=h.upto0 ZM;have li:events=[]:=h.events0 ZM ZM;subst dt li;obtain⟨T,hT⟩:∃T,T=(Zz clock 5):=⟨_,rfl⟩;obtain⟨BD,n9⟩:∃BD,BD=Zam ⟨3,r,0,clock,[]⟩:=⟨_,rfl⟩;have eJ:BD=3::r::T:=by rw[n9,hT];rfl
 rw[←n9]at hl cW;have wh:1<=T.length:=by
  rw[hT];first|exact Zac _|(have:=Zac (clock.get 4);simp only[Zz,ZI];omega)|(simp)
 have pm:BD.length=T.length+2:=by rw[eJ];rfl
 have wi:T.length<=1298:=ZO;have fm:=hb.len;have lu:(Zd BD.length).length+(2+T.length)=n:=by
  rw[←fm,hl,ZI,pm];omega
 obtain⟨b,off,rfl,cH,cB⟩:=hb.pos ZO;have gG:=hb.1;have cz:=hb.kept ((ZW w.heap.size w).alloc (ZL _) (C_ (Za ⟨0,0,0,ZCz,[]⟩ (S_ none 0 0)) 158)) (ZL _);have jq:=ZH (Zc8 cz cY);have gD:=Zc9 BD.length BD ZO;rw[←hl]at gD;have gx:=Zab 2 BD.length ZO;obtain⟨g1,g2,g3⟩:=ZfR (Zd BD.length) T 3 r;rw[←eJ,←hl]at g1 g2 g3;obtain⟨k,hk⟩:∃k,k=(Zd BD.length).length:=⟨_,rfl⟩;rw[←hk]at g1 g2 g3 gD lu gx;have k0:=cB k ZO;have k1:=cB (k+1) ZO;rw[g1]at k0;rw[g2]at k1;have dl:=hb.rest (k:=k+2) ZO;rw[ZPn ZO,g3]at dl;have gK:∀x∈T,x<256:=λx hx=>cY x (by rw[←g3]at hx;exact List.mem_of_mem_drop hx)
 obtain⟨H,mj,gI,HT,eZ⟩:=ZH5 h gD dl hT gK;have lw:(k:Int)<(n:Int):=ZO;have lR:(k:Int)+1<(n:Int):=ZO;have lS:(k:Int)+2<=(n:Int):=ZO;have lT:(k:Int)+2<=(cap:Int):=ZO;have cR:(0:Int)<=(k:Int):=ZO;have dI:(0:Int)<=(k:Int)+1:=ZO;have cX:(0:Int)<=(k:Int)+2:=ZO;have yE:((k:Int)+1).toNat=k+1:=ZO;have D8:((k:Int)+2).toNat=k+2:=ZO;have jv:IntKind.i64.wrap ((n:Int)-(k:Int))=(n:Int)-(k:Int):=by rw[IntKind.wrap_i64];omega
 have dD:IntKind.i64.wrap ((k:Int)+1)=(k:Int)+1:=by rw[IntKind.wrap_i64];omega
 have ee:IntKind.i64.wrap ((k:Int)+2)=(k:Int)+2:=by rw[IntKind.wrap_i64];omega
 have oJ:IntKind.i64.wrap (r:Int)=(r:Int):=by rw[IntKind.wrap_i64];omega
 have jt:¬((n:Int)-(k:Int)<2):=ZO;have kf:¬(cap=k+2):=ZO;clear h hb cz hl gD cB dl cY fm n9 hk eJ pm hT g1 g2 g3 gK;go_enter func137,ntmps137;go_wp2_with fail;refine jq.out.mono ?_;rintro e w1 hP;obtain⟨rfl,rfl⟩:e=R_ (.tuple #[.int .u64 (BD.length:Nat),I_ J_ (k:Nat),I_ J_ ((0:Nat):Int)])/\_=w1:=by
  have gB:=hP;unfold Za0 at gB;rw[mj.out]at gB;exact gB
 clear hP;obtain⟨w1,dn⟩:∃w1,w1=w.alloc (C_ (Za ⟨0,0,0,ZCz,[]⟩ (S_ none 0 0)) 158):=⟨_,rfl⟩;have fe:Kept w.heap.size w w1:=by rw[dn];exact(ZKr w).alloc _
 have gJ:Blk w1 w.heap.size 158 (Za ⟨0,0,0,ZCz,[]⟩ (S_ none 0 0)):=by rw[dn];exact ZBn _ _ _
 obtain⟨da,fO⟩:=ZH2 fe gJ;clear fe gJ;go_wp2_with fail;rw[←dn];have nu:b<w1.heap.size:=ZR cH da.out.le;have nF:w1.cell? ⟨b,off+k,none⟩=some (.int .u8 ((3:Nat):Int)):=by rw[da.out.cells b _ cH];exact k0
 have nG:w1.cell? ⟨b,off+(k+1),none⟩=some (.int .u8 (r:Int)):=by rw[da.out.cells b _ cH];exact k1
 have gk:=ZH dn;clear dn k0 k1;have vN:IntKind.i64.wrap (3:Int)=3:=by rw[IntKind.wrap_i64];omega
 refine ZSi [(0,3),(1,3),(2,3),(3,0),(4,3),(5,3),(6,3),(7,3),(8,3),(9,0),(10,3),(11,3),(12,1),(13,2)] λcu=>?_
 repeat((first|refine ZSa ?_|refine ZSb ?_|refine ZSc ?_);simp only[Act.put,Q_])
 refine ZSd λK hK=>?_
 go_simp;refine hK.out (λw'=>Kept w1.heap.size w1 w') _ _ (λ_ h=>h) (cu.alloc _) (λcA=>?_);clear hK K cu;repeat((first|refine ZSa ?_|refine ZSb ?_|refine ZSc ?_);simp only[Act.put,Q_])
 refine ZSe λK hK=>?_
 go_simp;refine hK.out _ _ ?_;clear hK K;refine ZSf ?_;obtain⟨w2,di⟩:∃w2,w2=(w1.alloc (C_ (Za ⟨3,r,0,ZCz,[]⟩ (S_ none 0 0)) 158)).drew:=⟨_,rfl⟩;change Exit.then _ _ Exit.normal _ ((w1.alloc (C_ (Za ⟨3,r,0,ZCz,[]⟩ (S_ none 0 0)) 158)).drew);rw[←di];have fU:Blk w2 w1.heap.size 158 (Za ⟨3,r,0,ZCz,[]⟩ (S_ none 0 0)):=by rw[di];exact(ZBn _ _ _).drew
 have gU:Kept w.heap.size w w2:=by rw[di];exact(da.out.alloc _).drew
 have gm:Blk w2 w.heap.size 158 (Za ⟨0,0,0,ZCz,[]⟩ (S_ none 0 0)):=by rw[di];exact(fO.out.alloc _).drew
 have oR:w.heap.size<w1.heap.size:=fO.out.lt;obtain⟨c0,c1,c2,c3,c4,c5,c6,c7,c8⟩:=fU.nine;have fE:=fU.lt;obtain⟨j9,cO,fP⟩:=ZH3 fU gU gm;clear fU gU gm di cA nF nG;generalize w1.heap.size=G at *;go_wp2_with fail;refine(ZcL 3 ZO ZO _).mono ?_;rintro _ w3 ⟨rfl,cG⟩;rw[show Zbo 3=.agg #[B_ false,B_ false,B_ true] from rfl];obtain⟨jy,fk⟩:=ZH2 ((j9.out.ob cG).alloc (C_ #[B_ false,B_ false,B_ true] 225)) ((fP.out.ob cG).alloc (C_ #[B_ false,B_ false,B_ true] 225));have lM:=(cO.out.step cG).alloc (C_ #[B_ false,B_ false,B_ true] 225);obtain⟨iI,dN⟩:=ZH2 (ZBn w3 225 #[B_ false,B_ false,B_ true]) (gI.out.kept lM.below (ZL _));have jF:=(j9.out.ob cG).lt;have cU:=ZH lM;clear lM cG c0 c1 c2 c3 c4 c5 c6 c7 c8 fE;go_wp2_with fail;have eh:=ZH (show Bytes w (some ⟨b,off+(k+2),none⟩) (n-(k+2)) (cap-(k+2)) (T.drop (Zz clock 0).length) from gI.out);have VH:=iI.out.lt;have xH:w3.heap.size≠G:=ZO;have mY:w.heap.size≠G:=ZO;have np:w.heap.size<=G:=ZO;have jQ:n-(k+2)<=1300:=ZO;clear lw lR lS lT cR dI cX yE D8 jv dD ee jt kf lu;go_loopw [0,9,10,72] (λv0 ok _ i wr=>∃(j:Nat) (A:Option Addr) (n' C':Nat),j<=5/\i=I_ J_ j/\ok=B_ true/\v0=S_ A n' C'/\n'<=1300/\Hid (Bytes w A n' C' (T.drop (Zz clock j).length))/\Hid (Blk wr G 158 (Za ⟨3,r,0,Zgm clock j,[]⟩ (S_ none 0 0)))/\Hid (Blk wr w3.heap.size 225 #[B_ false,B_ false,B_ true])/\Hid (Blk wr w.heap.size 158 (Za ⟨0,0,0,ZCz,[]⟩ (S_ none 0 0)))/\Hid (Kept w.heap.size w wr)) (λ_ _ _ i _=>5-(intOf i).toNat)
 case atStart=>exact⟨0,_,_,_,ZO,rfl,rfl,rfl,jQ,eh,jy,iI,fk,cU⟩
 case round =>
  skip
  obtain⟨j,A,n',C',hj,rfl,rfl,rfl,D5,ri,yS,Bw,zc,tL⟩:=hrel;obtain⟨d0,d1,d2⟩:=Bw.out.three;have sG:=Bw.out.lt;by_cases rF:j<5
  ·have DZ:(j:Int)<5:=ZO;have wv:(0:Int)<=(j:Int):=ZO;have fM:T.drop (Zz clock j).length=Zd (clock.get j)++T.drop (Zz clock (j+1)).length:=by
    have h:=ZgN clock rF;rw[←HT.out]at h;exact h
   have D1:=ri.out.len;have kS:=Zac (clock.get j);have i6:(Zd (clock.get j)).length<=n':=by
    rw[←D1,fM,ZI];omega
   obtain⟨bb,oo,rfl,_,_⟩:=ri.out.pos ZO;have qx:=ZH (ZfQ (ri.out.kept tL.out.below (ZL _)) (λx hx=>eZ.out x (List.mem_of_mem_drop hx)) (clock.get j) (H.out.clock j) _ fM);have dl:=ri.out.rest i6;rw[fM,List.drop_left]at dl;have Vr:=ri.out.1;have A9:=ZH dl;clear dl fM D1;generalize (Zd (clock.get j)).length=kk at *;have kn:(kk:Int)<=(n':Int):=ZO;have zM:(kk:Int)<=(C':Int):=ZO;have OB:(0:Int)<=(kk:Int):=ZO;go_wp2_with fail;refine qx.out.mono ?_;rintro _ w4 ⟨rfl,cS⟩;have gg:=yS.out.ob cS;have cj:=gg.cell (3+j);rw[ZgW _ _ _ _ _ _ rF]at cj;have fj:=gg.frozen (3+j);have fE:=gg.lt;have nM:=gg.aj (3+j) (I_ J_ ((clock.get j:Nat):Int));rw[ZgX _ _ _ _ _ _ rF]at nM;obtain⟨qb,io,fN,nI⟩:=ZH4 ((Bw.out.ob cS).far (p:=⟨G,3+j,none⟩) xH (I_ J_ ((clock.get j:Nat):Int))) ((zc.out.ob cS).far (p:=⟨G,3+j,none⟩) mY (I_ J_ ((clock.get j:Nat):Int))) ((tL.out.step cS).setCell (p:=⟨G,3+j,none⟩) np (I_ J_ ((clock.get j:Nat):Int))) nM;clear gg nM cS d0 d1 d2 sG;go_wp2
   go_roundw
   case rel=>exact⟨j+1,_,_,_,ZO,ZN,rfl,rfl,ZO,A9,nI,qb,io,fN⟩
   case measure=>simp[intOf];omega
  ·obtain rfl:j=5:=ZO;have nI:=yS;rw[ZfJ]at nI;have io:=zc;have fN:=tL;clear d0 d1 d2
   go_wp2_with (first
    |(refine wpList_load_row rfl 158 (.tmp 7) rfl G rfl 158 (Za ⟨3,r,0,clock,[]⟩ (S_ none 0 0)) (0,0) _ nI.out underlying158 rfl (Zaz _ _) ?_)
    |(refine wpList_store_row rfl 158 (.tmp 2) (.tmp 93) rfl w.heap.size (Za ⟨3,r,0,clock,[]⟩ (S_ none 0 0)) rfl rfl 158 (Za ⟨0,0,0,ZCz,[]⟩ (S_ none 0 0)) io.out (Zaz _ _) rfl (Zbt _ _ _ _) ?_))
   refine bodyPost_ret (Zq rfl rfl rfl (run_loadVar_row _ _ _ _ _ _ _ (io.out.row _) underlying158 rfl (Zaz _ _))) rfl ?_;exact⟨(S_ none 0 0),rfl,⟨rfl,.inl ⟨rfl,rfl⟩⟩,(fN.out.row (ZL _) _).below⟩
theorem ZnG(h:f.Ok)(dZ:f.kind=5)(hb:Bytes w a n cap l)(hl:l=Zd (Zam f).length++Zam f):
  Calls prog 137 #[S_ a n cap] w λr w'=>∃v,r=R_ (.tuple #[Zah f v,B_ true])/\w'.ownsRow w.heap.size 89 12 v f.events.length (evCells f.events)/\Below w.heap.size w w':=by
 have cY:∀x∈l,x<256:=λx hx=>by
  rw[hl,List.mem_append]at hx;rcases hx with hx|hx
  ·exact ZaH _ x hx
  ·exact Zbj h x hx
 have cW:=ZbP h;obtain⟨kind,r,upto,clock,events⟩:=f;simp only[]at dZ;subst dZ;have hr:=h.r;have dJ:=h.upto;have fX:=h.len;simp only[]at hr dJ fX;have dt:upto=0:=h.upto0 ZM;have li:events=[]:=h.events0 ZM ZM;subst dt li;obtain⟨T,hT⟩:∃T,T=(Zz clock 5):=⟨_,rfl⟩;obtain⟨BD,n9⟩:∃BD,BD=Zam ⟨5,r,0,clock,[]⟩:=⟨_,rfl⟩;have eJ:BD=5::r::T:=by rw[n9,hT];rfl
 rw[←n9]at hl cW;have wh:1<=T.length:=by
  rw[hT];first|exact Zac _|(have:=Zac (clock.get 4);simp only[Zz,ZI];omega)|(simp)
 have pm:BD.length=T.length+2:=by rw[eJ];rfl
 have wi:T.length<=1298:=ZO;have fm:=hb.len;have lu:(Zd BD.length).length+(2+T.length)=n:=by
  rw[←fm,hl,ZI,pm];omega
 obtain⟨b,off,rfl,cH,cB⟩:=hb.pos ZO;have gG:=hb.1;have cz:=hb.kept ((ZW w.heap.size w).alloc (ZL _) (C_ (Za ⟨0,0,0,ZCz,[]⟩ (S_ none 0 0)) 158)) (ZL _);have jq:=ZH (Zc8 cz cY);have gD:=Zc9 BD.length BD ZO;rw[←hl]at gD;have gx:=Zab 2 BD.length ZO;obtain⟨g1,g2,g3⟩:=ZfR (Zd BD.length) T 5 r;rw[←eJ,←hl]at g1 g2 g3;obtain⟨k,hk⟩:∃k,k=(Zd BD.length).length:=⟨_,rfl⟩;rw[←hk]at g1 g2 g3 gD lu gx;have k0:=cB k ZO;have k1:=cB (k+1) ZO;rw[g1]at k0;rw[g2]at k1;have dl:=hb.rest (k:=k+2) ZO;rw[ZPn ZO,g3]at dl;have gK:∀x∈T,x<256:=λx hx=>cY x (by rw[←g3]at hx;exact List.mem_of_mem_drop hx)
 obtain⟨H,mj,gI,HT,eZ⟩:=ZH5 h gD dl hT gK;have lw:(k:Int)<(n:Int):=ZO;have lR:(k:Int)+1<(n:Int):=ZO;have lS:(k:Int)+2<=(n:Int):=ZO;have lT:(k:Int)+2<=(cap:Int):=ZO;have cR:(0:Int)<=(k:Int):=ZO;have dI:(0:Int)<=(k:Int)+1:=ZO;have cX:(0:Int)<=(k:Int)+2:=ZO;have yE:((k:Int)+1).toNat=k+1:=ZO;have D8:((k:Int)+2).toNat=k+2:=ZO;have jv:IntKind.i64.wrap ((n:Int)-(k:Int))=(n:Int)-(k:Int):=by rw[IntKind.wrap_i64];omega
 have dD:IntKind.i64.wrap ((k:Int)+1)=(k:Int)+1:=by rw[IntKind.wrap_i64];omega
 have ee:IntKind.i64.wrap ((k:Int)+2)=(k:Int)+2:=by rw[IntKind.wrap_i64];omega
 have oJ:IntKind.i64.wrap (r:Int)=(r:Int):=by rw[IntKind.wrap_i64];omega
 have jt:¬((n:Int)-(k:Int)<2):=ZO;have kf:¬(cap=k+2):=ZO;clear h hb cz hl gD cB dl cY fm n9 hk eJ pm hT g1 g2 g3 gK;go_enter func137,ntmps137;go_wp2_with fail;refine jq.out.mono ?_;rintro e w1 hP;obtain⟨rfl,rfl⟩:e=R_ (.tuple #[.int .u64 (BD.length:Nat),I_ J_ (k:Nat),I_ J_ ((0:Nat):Int)])/\_=w1:=by
  have gB:=hP;unfold Za0 at gB;rw[mj.out]at gB;exact gB
 clear hP;obtain⟨w1,dn⟩:∃w1,w1=w.alloc (C_ (Za ⟨0,0,0,ZCz,[]⟩ (S_ none 0 0)) 158):=⟨_,rfl⟩;have fe:Kept w.heap.size w w1:=by rw[dn];exact(ZKr w).alloc _
 have gJ:Blk w1 w.heap.size 158 (Za ⟨0,0,0,ZCz,[]⟩ (S_ none 0 0)):=by rw[dn];exact ZBn _ _ _
 obtain⟨da,fO⟩:=ZH2 fe gJ;clear fe gJ;go_wp2_with fail;rw[←dn];have nu:b<w1.heap.size:=ZR cH da.out.le;have nF:w1.cell? ⟨b,off+k,none⟩=some (.int .u8 ((5:Nat):Int)):=by rw[da.out.cells b _ cH];exact k0
 have nG:w1.cell? ⟨b,off+(k+1),none⟩=some (.int .u8 (r:Int)):=by rw[da.out.cells b _ cH];exact k1
 have gk:=ZH dn;clear dn k0 k1;have vN:IntKind.i64.wrap (5:Int)=5:=by rw[IntKind.wrap_i64];omega
 refine ZSi [(0,3),(1,3),(2,3),(3,0),(4,3),(5,3),(6,3),(7,3),(8,3),(9,0),(10,3),(11,3),(12,1),(13,2)] λcu=>?_
 repeat((first|refine ZSa ?_|refine ZSb ?_|refine ZSc ?_);simp only[Act.put,Q_])
 refine ZSd λK hK=>?_
 go_simp;refine hK.out (λw'=>Kept w1.heap.size w1 w') _ _ (λ_ h=>h) (cu.alloc _) (λcA=>?_);clear hK K cu;repeat((first|refine ZSa ?_|refine ZSb ?_|refine ZSc ?_);simp only[Act.put,Q_])
 refine ZSe λK hK=>?_
 go_simp;refine hK.out _ _ ?_;clear hK K;refine ZSf ?_;obtain⟨w2,di⟩:∃w2,w2=(w1.alloc (C_ (Za ⟨5,r,0,ZCz,[]⟩ (S_ none 0 0)) 158)).drew:=⟨_,rfl⟩;change Exit.then _ _ Exit.normal _ ((w1.alloc (C_ (Za ⟨5,r,0,ZCz,[]⟩ (S_ none 0 0)) 158)).drew);rw[←di];have fU:Blk w2 w1.heap.size 158 (Za ⟨5,r,0,ZCz,[]⟩ (S_ none 0 0)):=by rw[di];exact(ZBn _ _ _).drew
 have gU:Kept w.heap.size w w2:=by rw[di];exact(da.out.alloc _).drew
 have gm:Blk w2 w.heap.size 158 (Za ⟨0,0,0,ZCz,[]⟩ (S_ none 0 0)):=by rw[di];exact(fO.out.alloc _).drew
 have oR:w.heap.size<w1.heap.size:=fO.out.lt;obtain⟨c0,c1,c2,c3,c4,c5,c6,c7,c8⟩:=fU.nine;have fE:=fU.lt;obtain⟨j9,cO,fP⟩:=ZH3 fU gU gm;clear fU gU gm di cA nF nG;generalize w1.heap.size=G at *;go_wp2_with fail;refine(ZcL 5 ZO ZO _).mono ?_;rintro _ w3 ⟨rfl,cG⟩;rw[show Zbo 5=.agg #[B_ false,B_ false,B_ true] from rfl];obtain⟨jy,fk⟩:=ZH2 ((j9.out.ob cG).alloc (C_ #[B_ false,B_ false,B_ true] 225)) ((fP.out.ob cG).alloc (C_ #[B_ false,B_ false,B_ true] 225));have lM:=(cO.out.step cG).alloc (C_ #[B_ false,B_ false,B_ true] 225);obtain⟨iI,dN⟩:=ZH2 (ZBn w3 225 #[B_ false,B_ false,B_ true]) (gI.out.kept lM.below (ZL _));have jF:=(j9.out.ob cG).lt;have cU:=ZH lM;clear lM cG c0 c1 c2 c3 c4 c5 c6 c7 c8 fE;go_wp2_with fail;have eh:=ZH (show Bytes w (some ⟨b,off+(k+2),none⟩) (n-(k+2)) (cap-(k+2)) (T.drop (Zz clock 0).length) from gI.out);have VH:=iI.out.lt;have xH:w3.heap.size≠G:=ZO;have mY:w.heap.size≠G:=ZO;have np:w.heap.size<=G:=ZO;have jQ:n-(k+2)<=1300:=ZO;clear lw lR lS lT cR dI cX yE D8 jv dD ee jt kf lu;go_loopw [0,9,10,72] (λv0 ok _ i wr=>∃(j:Nat) (A:Option Addr) (n' C':Nat),j<=5/\i=I_ J_ j/\ok=B_ true/\v0=S_ A n' C'/\n'<=1300/\Hid (Bytes w A n' C' (T.drop (Zz clock j).length))/\Hid (Blk wr G 158 (Za ⟨5,r,0,Zgm clock j,[]⟩ (S_ none 0 0)))/\Hid (Blk wr w3.heap.size 225 #[B_ false,B_ false,B_ true])/\Hid (Blk wr w.heap.size 158 (Za ⟨0,0,0,ZCz,[]⟩ (S_ none 0 0)))/\Hid (Kept w.heap.size w wr)) (λ_ _ _ i _=>5-(intOf i).toNat)
 case atStart=>exact⟨0,_,_,_,ZO,rfl,rfl,rfl,jQ,eh,jy,iI,fk,cU⟩
 case round =>
  skip
  obtain⟨j,A,n',C',hj,rfl,rfl,rfl,D5,ri,yS,Bw,zc,tL⟩:=hrel;obtain⟨d0,d1,d2⟩:=Bw.out.three;have sG:=Bw.out.lt;by_cases rF:j<5
  ·have DZ:(j:Int)<5:=ZO;have wv:(0:Int)<=(j:Int):=ZO;have fM:T.drop (Zz clock j).length=Zd (clock.get j)++T.drop (Zz clock (j+1)).length:=by
    have h:=ZgN clock rF;rw[←HT.out]at h;exact h
   have D1:=ri.out.len;have kS:=Zac (clock.get j);have i6:(Zd (clock.get j)).length<=n':=by
    rw[←D1,fM,ZI];omega
   obtain⟨bb,oo,rfl,_,_⟩:=ri.out.pos ZO;have qx:=ZH (ZfQ (ri.out.kept tL.out.below (ZL _)) (λx hx=>eZ.out x (List.mem_of_mem_drop hx)) (clock.get j) (H.out.clock j) _ fM);have dl:=ri.out.rest i6;rw[fM,List.drop_left]at dl;have Vr:=ri.out.1;have A9:=ZH dl;clear dl fM D1;generalize (Zd (clock.get j)).length=kk at *;have kn:(kk:Int)<=(n':Int):=ZO;have zM:(kk:Int)<=(C':Int):=ZO;have OB:(0:Int)<=(kk:Int):=ZO;go_wp2_with fail;refine qx.out.mono ?_;rintro _ w4 ⟨rfl,cS⟩;have gg:=yS.out.ob cS;have cj:=gg.cell (3+j);rw[ZgW _ _ _ _ _ _ rF]at cj;have fj:=gg.frozen (3+j);have fE:=gg.lt;have nM:=gg.aj (3+j) (I_ J_ ((clock.get j:Nat):Int));rw[ZgX _ _ _ _ _ _ rF]at nM;obtain⟨qb,io,fN,nI⟩:=ZH4 ((Bw.out.ob cS).far (p:=⟨G,3+j,none⟩) xH (I_ J_ ((clock.get j:Nat):Int))) ((zc.out.ob cS).far (p:=⟨G,3+j,none⟩) mY (I_ J_ ((clock.get j:Nat):Int))) ((tL.out.step cS).setCell (p:=⟨G,3+j,none⟩) np (I_ J_ ((clock.get j:Nat):Int))) nM;clear gg nM cS d0 d1 d2 sG;go_wp2
   go_roundw
   case rel=>exact⟨j+1,_,_,_,ZO,ZN,rfl,rfl,ZO,A9,nI,qb,io,fN⟩
   case measure=>simp[intOf];omega
  ·obtain rfl:j=5:=ZO;have nI:=yS;rw[ZfJ]at nI;have io:=zc;have fN:=tL;clear d0 d1 d2
   go_wp2_with (first
    |(refine wpList_load_row rfl 158 (.tmp 7) rfl G rfl 158 (Za ⟨5,r,0,clock,[]⟩ (S_ none 0 0)) (0,0) _ nI.out underlying158 rfl (Zaz _ _) ?_)
    |(refine wpList_store_row rfl 158 (.tmp 2) (.tmp 93) rfl w.heap.size (Za ⟨5,r,0,clock,[]⟩ (S_ none 0 0)) rfl rfl 158 (Za ⟨0,0,0,ZCz,[]⟩ (S_ none 0 0)) io.out (Zaz _ _) rfl (Zbt _ _ _ _) ?_))
   refine bodyPost_ret (Zq rfl rfl rfl (run_loadVar_row _ _ _ _ _ _ _ (io.out.row _) underlying158 rfl (Zaz _ _))) rfl ?_;exact⟨(S_ none 0 0),rfl,⟨rfl,.inl ⟨rfl,rfl⟩⟩,(fN.out.row (ZL _) _).below⟩
theorem ZnC(h:f.Ok)(dZ:f.kind=1)(hb:Bytes w a n cap l)(hl:l=Zd (Zam f).length++Zam f):
  Calls prog 137 #[S_ a n cap] w λr w'=>∃v,r=R_ (.tuple #[Zah f v,B_ true])/\w'.ownsRow w.heap.size 89 12 v f.events.length (evCells f.events)/\Below w.heap.size w w':=by
 have cY:∀x∈l,x<256:=λx hx=>by
  rw[hl,List.mem_append]at hx;rcases hx with hx|hx
  ·exact ZaH _ x hx
  ·exact Zbj h x hx
 have cW:=ZbP h;obtain⟨kind,r,upto,clock,events⟩:=f;simp only[]at dZ;subst dZ;have hr:=h.r;have dJ:=h.upto;have fX:=h.len;simp only[]at hr dJ fX;have eo:clock=ZCz:=h.clock0 ZM ZM;have dt:upto=0:=h.upto0 ZM;subst eo dt;obtain⟨T,hT⟩:∃T,T=(events.length::Zg events):=⟨_,rfl⟩;obtain⟨BD,n9⟩:∃BD,BD=Zam ⟨1,r,0,ZCz,events⟩:=⟨_,rfl⟩;have eJ:BD=1::r::T:=by rw[n9,hT];rfl
 rw[←n9]at hl cW;have wh:1<=T.length:=by
  rw[hT];first|exact Zac _|(have:=Zac (clock.get 4);simp only[Zz,ZI];omega)|(simp)
 have pm:BD.length=T.length+2:=by rw[eJ];rfl
 have wi:T.length<=1298:=ZO;have fm:=hb.len;have lu:(Zd BD.length).length+(2+T.length)=n:=by
  rw[←fm,hl,ZI,pm];omega
 obtain⟨b,off,rfl,cH,cB⟩:=hb.pos ZO;have gG:=hb.1;have cz:=hb.kept ((ZW w.heap.size w).alloc (ZL _) (C_ (Za ⟨0,0,0,ZCz,[]⟩ (S_ none 0 0)) 158)) (ZL _);have jq:=ZH (Zc8 cz cY);have gD:=Zc9 BD.length BD ZO;rw[←hl]at gD;have gx:=Zab 2 BD.length ZO;obtain⟨g1,g2,g3⟩:=ZfR (Zd BD.length) T 1 r;rw[←eJ,←hl]at g1 g2 g3;obtain⟨k,hk⟩:∃k,k=(Zd BD.length).length:=⟨_,rfl⟩;rw[←hk]at g1 g2 g3 gD lu gx;have k0:=cB k ZO;have k1:=cB (k+1) ZO;rw[g1]at k0;rw[g2]at k1;have dl:=hb.rest (k:=k+2) ZO;rw[ZPn ZO,g3]at dl;have gK:∀x∈T,x<256:=λx hx=>cY x (by rw[←g3]at hx;exact List.mem_of_mem_drop hx)
 obtain⟨H,mj,gI,HT,eZ⟩:=ZH5 h gD dl hT gK;have lw:(k:Int)<(n:Int):=ZO;have lR:(k:Int)+1<(n:Int):=ZO;have lS:(k:Int)+2<=(n:Int):=ZO;have lT:(k:Int)+2<=(cap:Int):=ZO;have cR:(0:Int)<=(k:Int):=ZO;have dI:(0:Int)<=(k:Int)+1:=ZO;have cX:(0:Int)<=(k:Int)+2:=ZO;have yE:((k:Int)+1).toNat=k+1:=ZO;have D8:((k:Int)+2).toNat=k+2:=ZO;have jv:IntKind.i64.wrap ((n:Int)-(k:Int))=(n:Int)-(k:Int):=by rw[IntKind.wrap_i64];omega
 have dD:IntKind.i64.wrap ((k:Int)+1)=(k:Int)+1:=by rw[IntKind.wrap_i64];omega
 have ee:IntKind.i64.wrap ((k:Int)+2)=(k:Int)+2:=by rw[IntKind.wrap_i64];omega
 have oJ:IntKind.i64.wrap (r:Int)=(r:Int):=by rw[IntKind.wrap_i64];omega
 have jt:¬((n:Int)-(k:Int)<2):=ZO;have kf:¬(cap=k+2):=ZO;clear h hb cz hl gD cB dl cY fm n9 hk eJ pm hT g1 g2 g3 gK;go_enter func137,ntmps137;go_wp2_with fail;refine jq.out.mono ?_;rintro e w1 hP;obtain⟨rfl,rfl⟩:e=R_ (.tuple #[.int .u64 (BD.length:Nat),I_ J_ (k:Nat),I_ J_ ((0:Nat):Int)])/\_=w1:=by
  have gB:=hP;unfold Za0 at gB;rw[mj.out]at gB;exact gB
 clear hP;obtain⟨w1,dn⟩:∃w1,w1=w.alloc (C_ (Za ⟨0,0,0,ZCz,[]⟩ (S_ none 0 0)) 158):=⟨_,rfl⟩;have fe:Kept w.heap.size w w1:=by rw[dn];exact(ZKr w).alloc _
 have gJ:Blk w1 w.heap.size 158 (Za ⟨0,0,0,ZCz,[]⟩ (S_ none 0 0)):=by rw[dn];exact ZBn _ _ _
 obtain⟨da,fO⟩:=ZH2 fe gJ;clear fe gJ;go_wp2_with fail;rw[←dn];have nu:b<w1.heap.size:=ZR cH da.out.le;have nF:w1.cell? ⟨b,off+k,none⟩=some (.int .u8 ((1:Nat):Int)):=by rw[da.out.cells b _ cH];exact k0
 have nG:w1.cell? ⟨b,off+(k+1),none⟩=some (.int .u8 (r:Int)):=by rw[da.out.cells b _ cH];exact k1
 have gk:=ZH dn;clear dn k0 k1;have vN:IntKind.i64.wrap (1:Int)=1:=by rw[IntKind.wrap_i64];omega
 refine ZSi [(0,3),(1,3),(2,3),(3,0),(4,3),(5,3),(6,3),(7,3),(8,3),(9,0),(10,3),(11,3),(12,1),(13,2)] λcu=>?_
 repeat((first|refine ZSa ?_|refine ZSb ?_|refine ZSc ?_);simp only[Act.put,Q_])
 refine ZSd λK hK=>?_
 go_simp;refine hK.out (λw'=>Kept w1.heap.size w1 w') _ _ (λ_ h=>h) (cu.alloc _) (λcA=>?_);clear hK K cu;repeat((first|refine ZSa ?_|refine ZSb ?_|refine ZSc ?_);simp only[Act.put,Q_])
 refine ZSe λK hK=>?_
 go_simp;refine hK.out _ _ ?_;clear hK K;refine ZSf ?_;obtain⟨w2,di⟩:∃w2,w2=(w1.alloc (C_ (Za ⟨1,r,0,ZCz,[]⟩ (S_ none 0 0)) 158)).drew:=⟨_,rfl⟩;change Exit.then _ _ Exit.normal _ ((w1.alloc (C_ (Za ⟨1,r,0,ZCz,[]⟩ (S_ none 0 0)) 158)).drew);rw[←di];have fU:Blk w2 w1.heap.size 158 (Za ⟨1,r,0,ZCz,[]⟩ (S_ none 0 0)):=by rw[di];exact(ZBn _ _ _).drew
 have gU:Kept w.heap.size w w2:=by rw[di];exact(da.out.alloc _).drew
 have gm:Blk w2 w.heap.size 158 (Za ⟨0,0,0,ZCz,[]⟩ (S_ none 0 0)):=by rw[di];exact(fO.out.alloc _).drew
 have oR:w.heap.size<w1.heap.size:=fO.out.lt;obtain⟨c0,c1,c2,c3,c4,c5,c6,c7,c8⟩:=fU.nine;have fE:=fU.lt;obtain⟨j9,cO,fP⟩:=ZH3 fU gU gm;clear fU gU gm di cA nF nG;generalize w1.heap.size=G at *;go_wp2_with fail;refine(ZcL 1 ZO ZO _).mono ?_;rintro _ w3 ⟨rfl,cG⟩;rw[show Zbo 1=.agg #[B_ true,B_ false,B_ false] from rfl];obtain⟨jy,fk⟩:=ZH2 ((j9.out.ob cG).alloc (C_ #[B_ true,B_ false,B_ false] 225)) ((fP.out.ob cG).alloc (C_ #[B_ true,B_ false,B_ false] 225));have lM:=(cO.out.step cG).alloc (C_ #[B_ true,B_ false,B_ false] 225);obtain⟨iI,dN⟩:=ZH2 (ZBn w3 225 #[B_ true,B_ false,B_ false]) (gI.out.kept lM.below (ZL _));have jF:=(j9.out.ob cG).lt;have cU:=ZH lM;clear lM cG c0 c1 c2 c3 c4 c5 c6 c7 c8 fE;go_wp2_with fail;refine(ZhT dN.out eZ.out ZO events H.out.events fX [] (by rw[HT.out,List.append_nil])).mono ?_;rintro _ w4 ⟨VV,rfl,tv,cS⟩;have gg:=jy.out.ob cS;obtain⟨c0,c1,c2,c3,c4,c5,c6,c7,c8⟩:=gg.nine;have f8:=gg.frozen 8;have jA:=ZH (iI.out.ob cS);have fE:=gg.lt;obtain⟨gS,dw⟩:=ZH2 (fk.out.ob cS) (cU.out.step cS);have mY:w.heap.size≠G:=ZO;have xH:w3.heap.size≠G:=ZO;have mK:G<(w3.alloc (C_ #[B_ true,B_ false,B_ false] 225)).heap.size:=jy.out.lt;obtain⟨BB,pk⟩:∃BB,BB=(w3.alloc (C_ #[B_ true,B_ false,B_ false] 225)).heap.size:=⟨_,rfl⟩;rw[←pk]at tv mK;obtain⟨av,cv,rfl,_⟩:=EvSl.ae tv;obtain⟨nH,ue⟩:=ZH2 gg tv;clear gg cS tv pk;obtain⟨W5,ir⟩:∃W5,W5=w4.setCell ⟨G,8,none⟩ (S_ av events.length cv):=⟨_,rfl⟩;have nM:Blk W5 G 158 (Za ⟨1,r,0,ZCz,events⟩ (S_ av events.length cv)):=by rw[ir];exact nH.out.aj 8 _
 have qL:Blk W5 w3.heap.size 225 #[B_ true,B_ false,B_ false]:=by rw[ir];exact jA.out.far xH _
 have zu:Blk W5 w.heap.size 158 (Za ⟨0,0,0,ZCz,[]⟩ (S_ none 0 0)):=by rw[ir];exact gS.out.far mY _
 have ti:Kept w.heap.size w W5:=by rw[ir];exact dw.out.setCell (by show w.heap.size<=G;omega) _
 have Gb:W5.ownsRow BB 89 12 (S_ av events.length cv) events.length (evCells events):=by
  rw[ir];exact Zi ue.out (λg hg _=>Below.heap_setCell _ _ _ _ (λe=>by have:=Zb ue.out hg;have e:g=G:=e;omega))
 obtain⟨d0,d1,d2⟩:=qL.three;obtain⟨x0,x1,x2⟩:=jA.out.three;have sG:=qL.lt;have zS:=jA.out.lt;obtain⟨nI,io,fN,qD,uf⟩:=ZH5 nM zu ti ir Gb;clear nM qL zu ti ir Gb;go_wp2_with fail;rw[←qD.out];go_loopw [9,10,72] (λok _ i wr=>∃j:Nat,j<=5/\i=I_ J_ j/\ok=B_ true/\wr=W5) (λ_ _ i _=>5-(intOf i).toNat)
 case atStart=>exact⟨0,ZO,rfl,rfl,rfl⟩
 case round =>
  obtain⟨j,hj,rfl,rfl,rfl⟩:=hrel;by_cases rF:j<5
  ·have DZ:(j:Int)<5:=ZO;go_wp2
   go_roundw
   case rel=>exact⟨j+1,ZO,ZN,rfl,by first|rfl|trivial⟩
   case measure=>simp[intOf];omega
  ·obtain rfl:j=5:=ZO
   go_wp2_with (first
    |(refine wpList_load_row rfl 158 (.tmp 7) rfl G rfl 158 (Za ⟨1,r,0,ZCz,events⟩ (S_ av events.length cv)) (0,0) _ nI.out underlying158 rfl (Zaz _ _) ?_)
    |(refine wpList_store_row rfl 158 (.tmp 2) (.tmp 93) rfl w.heap.size (Za ⟨1,r,0,ZCz,events⟩ (S_ av events.length cv)) rfl rfl 158 (Za ⟨0,0,0,ZCz,[]⟩ (S_ none 0 0)) io.out (Zaz _ _) rfl (Zbt _ _ _ _) ?_))
   refine bodyPost_ret (Zq rfl rfl rfl (run_loadVar_row _ _ _ _ _ _ _ (io.out.row _) underlying158 rfl (Zaz _ _))) rfl ?_;exact⟨(S_ av events.length cv),rfl,Zj (Zi uf.out (λg hg _=>setRow_other _ _ _ _ (by have:=Zb uf.out hg;omega))) ZO,(fN.out.row (ZL _) _).below⟩
theorem ZnF(h:f.Ok)(dZ:f.kind=4)(hb:Bytes w a n cap l)(hl:l=Zd (Zam f).length++Zam f):
  Calls prog 137 #[S_ a n cap] w λr w'=>∃v,r=R_ (.tuple #[Zah f v,B_ true])/\w'.ownsRow w.heap.size 89 12 v f.events.length (evCells f.events)/\Below w.heap.size w w':=by
 have cY:∀x∈l,x<256:=λx hx=>by
  rw[hl,List.mem_append]at hx;rcases hx with hx|hx
  ·exact ZaH _ x hx
  ·exact Zbj h x hx
 have cW:=ZbP h;obtain⟨kind,r,upto,clock,events⟩:=f;simp only[]at dZ;subst dZ;have hr:=h.r;have dJ:=h.upto;have fX:=h.len;simp only[]at hr dJ fX;have eo:clock=ZCz:=h.clock0 ZM ZM;have dt:upto=0:=h.upto0 ZM;subst eo dt;obtain⟨T,hT⟩:∃T,T=(events.length::Zg events):=⟨_,rfl⟩;obtain⟨BD,n9⟩:∃BD,BD=Zam ⟨4,r,0,ZCz,events⟩:=⟨_,rfl⟩;have eJ:BD=4::r::T:=by rw[n9,hT];rfl
 rw[←n9]at hl cW;have wh:1<=T.length:=by
  rw[hT];first|exact Zac _|(have:=Zac (clock.get 4);simp only[Zz,ZI];omega)|(simp)
 have pm:BD.length=T.length+2:=by rw[eJ];rfl
 have wi:T.length<=1298:=ZO;have fm:=hb.len;have lu:(Zd BD.length).length+(2+T.length)=n:=by
  rw[←fm,hl,ZI,pm];omega
 obtain⟨b,off,rfl,cH,cB⟩:=hb.pos ZO;have gG:=hb.1;have cz:=hb.kept ((ZW w.heap.size w).alloc (ZL _) (C_ (Za ⟨0,0,0,ZCz,[]⟩ (S_ none 0 0)) 158)) (ZL _);have jq:=ZH (Zc8 cz cY);have gD:=Zc9 BD.length BD ZO;rw[←hl]at gD;have gx:=Zab 2 BD.length ZO;obtain⟨g1,g2,g3⟩:=ZfR (Zd BD.length) T 4 r;rw[←eJ,←hl]at g1 g2 g3;obtain⟨k,hk⟩:∃k,k=(Zd BD.length).length:=⟨_,rfl⟩;rw[←hk]at g1 g2 g3 gD lu gx;have k0:=cB k ZO;have k1:=cB (k+1) ZO;rw[g1]at k0;rw[g2]at k1;have dl:=hb.rest (k:=k+2) ZO;rw[ZPn ZO,g3]at dl;have gK:∀x∈T,x<256:=λx hx=>cY x (by rw[←g3]at hx;exact List.mem_of_mem_drop hx)
 obtain⟨H,mj,gI,HT,eZ⟩:=ZH5 h gD dl hT gK;have lw:(k:Int)<(n:Int):=ZO;have lR:(k:Int)+1<(n:Int):=ZO;have lS:(k:Int)+2<=(n:Int):=ZO;have lT:(k:Int)+2<=(cap:Int):=ZO;have cR:(0:Int)<=(k:Int):=ZO;have dI:(0:Int)<=(k:Int)+1:=ZO;have cX:(0:Int)<=(k:Int)+2:=ZO;have yE:((k:Int)+1).toNat=k+1:=ZO;have D8:((k:Int)+2).toNat=k+2:=ZO;have jv:IntKind.i64.wrap ((n:Int)-(k:Int))=(n:Int)-(k:Int):=by rw[IntKind.wrap_i64];omega
 have dD:IntKind.i64.wrap ((k:Int)+1)=(k:Int)+1:=by rw[IntKind.wrap_i64];omega
 have ee:IntKind.i64.wrap ((k:Int)+2)=(k:Int)+2:=by rw[IntKind.wrap_i64];omega
 have oJ:IntKind.i64.wrap (r:Int)=(r:Int):=by rw[IntKind.wrap_i64];omega
 have jt:¬((n:Int)-(k:Int)<2):=ZO;have kf:¬(cap=k+2):=ZO;clear h hb cz hl gD cB dl cY fm n9 hk eJ pm hT g1 g2 g3 gK;go_enter func137,ntmps137;go_wp2_with fail;refine jq.out.mono ?_;rintro e w1 hP;obtain⟨rfl,rfl⟩:e=R_ (.tuple #[.int .u64 (BD.length:Nat),I_ J_ (k:Nat),I_ J_ ((0:Nat):Int)])/\_=w1:=by
  have gB:=hP;unfold Za0 at gB;rw[mj.out]at gB;exact gB
 clear hP;obtain⟨w1,dn⟩:∃w1,w1=w.alloc (C_ (Za ⟨0,0,0,ZCz,[]⟩ (S_ none 0 0)) 158):=⟨_,rfl⟩;have fe:Kept w.heap.size w w1:=by rw[dn];exact(ZKr w).alloc _
 have gJ:Blk w1 w.heap.size 158 (Za ⟨0,0,0,ZCz,[]⟩ (S_ none 0 0)):=by rw[dn];exact ZBn _ _ _
 obtain⟨da,fO⟩:=ZH2 fe gJ;clear fe gJ;go_wp2_with fail;rw[←dn];have nu:b<w1.heap.size:=ZR cH da.out.le;have nF:w1.cell? ⟨b,off+k,none⟩=some (.int .u8 ((4:Nat):Int)):=by rw[da.out.cells b _ cH];exact k0
 have nG:w1.cell? ⟨b,off+(k+1),none⟩=some (.int .u8 (r:Int)):=by rw[da.out.cells b _ cH];exact k1
 have gk:=ZH dn;clear dn k0 k1;have vN:IntKind.i64.wrap (4:Int)=4:=by rw[IntKind.wrap_i64];omega
 refine ZSi [(0,3),(1,3),(2,3),(3,0),(4,3),(5,3),(6,3),(7,3),(8,3),(9,0),(10,3),(11,3),(12,1),(13,2)] λcu=>?_
 repeat((first|refine ZSa ?_|refine ZSb ?_|refine ZSc ?_);simp only[Act.put,Q_])
 refine ZSd λK hK=>?_
 go_simp;refine hK.out (λw'=>Kept w1.heap.size w1 w') _ _ (λ_ h=>h) (cu.alloc _) (λcA=>?_);clear hK K cu;repeat((first|refine ZSa ?_|refine ZSb ?_|refine ZSc ?_);simp only[Act.put,Q_])
 refine ZSe λK hK=>?_
 go_simp;refine hK.out _ _ ?_;clear hK K;refine ZSf ?_;obtain⟨w2,di⟩:∃w2,w2=(w1.alloc (C_ (Za ⟨4,r,0,ZCz,[]⟩ (S_ none 0 0)) 158)).drew:=⟨_,rfl⟩;change Exit.then _ _ Exit.normal _ ((w1.alloc (C_ (Za ⟨4,r,0,ZCz,[]⟩ (S_ none 0 0)) 158)).drew);rw[←di];have fU:Blk w2 w1.heap.size 158 (Za ⟨4,r,0,ZCz,[]⟩ (S_ none 0 0)):=by rw[di];exact(ZBn _ _ _).drew
 have gU:Kept w.heap.size w w2:=by rw[di];exact(da.out.alloc _).drew
 have gm:Blk w2 w.heap.size 158 (Za ⟨0,0,0,ZCz,[]⟩ (S_ none 0 0)):=by rw[di];exact(fO.out.alloc _).drew
 have oR:w.heap.size<w1.heap.size:=fO.out.lt;obtain⟨c0,c1,c2,c3,c4,c5,c6,c7,c8⟩:=fU.nine;have fE:=fU.lt;obtain⟨j9,cO,fP⟩:=ZH3 fU gU gm;clear fU gU gm di cA nF nG;generalize w1.heap.size=G at *;go_wp2_with fail;refine(ZcL 4 ZO ZO _).mono ?_;rintro _ w3 ⟨rfl,cG⟩;rw[show Zbo 4=.agg #[B_ true,B_ false,B_ false] from rfl];obtain⟨jy,fk⟩:=ZH2 ((j9.out.ob cG).alloc (C_ #[B_ true,B_ false,B_ false] 225)) ((fP.out.ob cG).alloc (C_ #[B_ true,B_ false,B_ false] 225));have lM:=(cO.out.step cG).alloc (C_ #[B_ true,B_ false,B_ false] 225);obtain⟨iI,dN⟩:=ZH2 (ZBn w3 225 #[B_ true,B_ false,B_ false]) (gI.out.kept lM.below (ZL _));have jF:=(j9.out.ob cG).lt;have cU:=ZH lM;clear lM cG c0 c1 c2 c3 c4 c5 c6 c7 c8 fE;go_wp2_with fail;refine(ZhT dN.out eZ.out ZO events H.out.events fX [] (by rw[HT.out,List.append_nil])).mono ?_;rintro _ w4 ⟨VV,rfl,tv,cS⟩;have gg:=jy.out.ob cS;obtain⟨c0,c1,c2,c3,c4,c5,c6,c7,c8⟩:=gg.nine;have f8:=gg.frozen 8;have jA:=ZH (iI.out.ob cS);have fE:=gg.lt;obtain⟨gS,dw⟩:=ZH2 (fk.out.ob cS) (cU.out.step cS);have mY:w.heap.size≠G:=ZO;have xH:w3.heap.size≠G:=ZO;have mK:G<(w3.alloc (C_ #[B_ true,B_ false,B_ false] 225)).heap.size:=jy.out.lt;obtain⟨BB,pk⟩:∃BB,BB=(w3.alloc (C_ #[B_ true,B_ false,B_ false] 225)).heap.size:=⟨_,rfl⟩;rw[←pk]at tv mK;obtain⟨av,cv,rfl,_⟩:=EvSl.ae tv;obtain⟨nH,ue⟩:=ZH2 gg tv;clear gg cS tv pk;obtain⟨W5,ir⟩:∃W5,W5=w4.setCell ⟨G,8,none⟩ (S_ av events.length cv):=⟨_,rfl⟩;have nM:Blk W5 G 158 (Za ⟨4,r,0,ZCz,events⟩ (S_ av events.length cv)):=by rw[ir];exact nH.out.aj 8 _
 have qL:Blk W5 w3.heap.size 225 #[B_ true,B_ false,B_ false]:=by rw[ir];exact jA.out.far xH _
 have zu:Blk W5 w.heap.size 158 (Za ⟨0,0,0,ZCz,[]⟩ (S_ none 0 0)):=by rw[ir];exact gS.out.far mY _
 have ti:Kept w.heap.size w W5:=by rw[ir];exact dw.out.setCell (by show w.heap.size<=G;omega) _
 have Gb:W5.ownsRow BB 89 12 (S_ av events.length cv) events.length (evCells events):=by
  rw[ir];exact Zi ue.out (λg hg _=>Below.heap_setCell _ _ _ _ (λe=>by have:=Zb ue.out hg;have e:g=G:=e;omega))
 obtain⟨d0,d1,d2⟩:=qL.three;obtain⟨x0,x1,x2⟩:=jA.out.three;have sG:=qL.lt;have zS:=jA.out.lt;obtain⟨nI,io,fN,qD,uf⟩:=ZH5 nM zu ti ir Gb;clear nM qL zu ti ir Gb;go_wp2_with fail;rw[←qD.out];go_loopw [9,10,72] (λok _ i wr=>∃j:Nat,j<=5/\i=I_ J_ j/\ok=B_ true/\wr=W5) (λ_ _ i _=>5-(intOf i).toNat)
 case atStart=>exact⟨0,ZO,rfl,rfl,rfl⟩
 case round =>
  obtain⟨j,hj,rfl,rfl,rfl⟩:=hrel;by_cases rF:j<5
  ·have DZ:(j:Int)<5:=ZO;go_wp2
   go_roundw
   case rel=>exact⟨j+1,ZO,ZN,rfl,by first|rfl|trivial⟩
   case measure=>simp[intOf];omega
  ·obtain rfl:j=5:=ZO
   go_wp2_with (first
    |(refine wpList_load_row rfl 158 (.tmp 7) rfl G rfl 158 (Za ⟨4,r,0,ZCz,events⟩ (S_ av events.length cv)) (0,0) _ nI.out underlying158 rfl (Zaz _ _) ?_)
    |(refine wpList_store_row rfl 158 (.tmp 2) (.tmp 93) rfl w.heap.size (Za ⟨4,r,0,ZCz,events⟩ (S_ av events.length cv)) rfl rfl 158 (Za ⟨0,0,0,ZCz,[]⟩ (S_ none 0 0)) io.out (Zaz _ _) rfl (Zbt _ _ _ _) ?_))
   refine bodyPost_ret (Zq rfl rfl rfl (run_loadVar_row _ _ _ _ _ _ _ (io.out.row _) underlying158 rfl (Zaz _ _))) rfl ?_;exact⟨(S_ av events.length cv),rfl,Zj (Zi uf.out (λg hg _=>setRow_other _ _ _ _ (by have:=Zb uf.out hg;omega))) ZO,(fN.out.row (ZL _) _).below⟩
theorem ZjA{a':Option Addr}{n' cap':Nat}(h:Bytes w a n cap l)(h':Bytes w a' n' cap' l):
  Calls prog 138 #[S_ a n cap,S_ a' n' cap'] w (Zx (B_ true) w):=by
 have h1:=Ziu (P:=prog) underlying106 underlying5 h 9 underlying9;have h2:=Ziu (P:=prog) underlying106 underlying5 h' 9 underlying9;clear h h';go_enter func138,ntmps138;go_wp2
 go_ret;exact⟨ZM,ZW _ _⟩
theorem Zo7(h:f.Ok)(hb:Bytes w a n cap l)(hl:l=Zd (Zam f).length++Zam f):
  Calls prog 137 #[S_ a n cap] w λr w'=>∃v,r=R_ (.tuple #[Zah f v,B_ true])/\w'.ownsRow w.heap.size 89 12 v f.events.length (evCells f.events)/\L_ w w':=by
 have h1:=h.kind1;have h5:=h.kind5;rcases(by omega:f.kind=1∨f.kind=2∨f.kind=3∨f.kind=4∨f.kind=5) with hk|hk|hk|hk|hk
 ·exact ZnC h hk hb hl
 ·exact ZnD h hk hb hl
 ·exact ZnE h hk hb hl
 ·exact ZnF h hk hb hl
 ·exact ZnG h hk hb hl
theorem Zha(l:List Nat):ZdL (ZaF l):=by
 refine⟨by rw[Zb7];omega,?_⟩;rw[Zb7,show l.length+4-4=l.length by omega];unfold ZaF;rw[List.drop_left,List.take_left]
theorem Zdd(h:f.Ok):(Zn f).length<=1400:=by
 have h1:=ZbP h;have h2:=Zab 2 (Zam f).length ZO;unfold Zn;rw[Zb7,ZI];omega
theorem Zgt(h:f.Ok):∀x∈Zn f,x<256:=by
 refine Zfs (λx hx=>?_);rw[List.mem_append]at hx;rcases hx with hx|hx
 ·exact ZaH _ x hx
 ·exact Zbj h x hx
theorem ZjP(h:f.Ok)(hb:Bytes w a n cap (Zn f)):
  Calls prog 92 #[S_ a n cap] w λr w'=>∃v,r=R_ (.tuple #[Zah f v,I_ J_ 0])/\w'.ownsRow w.heap.size 89 12 v f.events.length (evCells f.events)/\L_ w w':=by
 have hlen:=hb.len;have eE:=Zdd h;have cY:=Zgt h;have hn:n<=1400:=ZO;have fI:¬((2048:Int)<(n:Int)):=ZO;have cR:=(ZKr w).alloc (C_ (Za ⟨0,0,0,ZCz,[]⟩ (S_ none 0 0)) 158);obtain⟨mi,eh,H,HB,ed,gA,gb⟩:=ZH7 (ZBn w 158 (Za ⟨0,0,0,ZCz,[]⟩ (S_ none 0 0))) (hb.kept cR.below (ZL _)) h hb cR cY hlen;clear h hb cR cY eE hlen;go_enter func92,ntmps92;go_wp2_with fail;refine(Zjj eh.out gA.out ZO).mono ?_;rintro _ w1 hP;rcases hP with ⟨_,v1,rfl,eG,cz⟩|⟨gY,_⟩
 rotate_left 1
 ·exact absurd (Zha _) gY
 have pA:(Zn f).take ((Zn f).length-4)=Zd (Zam f).length++Zam f:=by
  unfold Zn;rw[Zb7,show ∀m:Nat,m+4-4=m from λm=>by omega];unfold ZaF;rw[List.take_left]
 rw[pA]at eG;obtain⟨a1,BE,rfl,kS⟩:=Bytes.ae eG;have da:=ZH (ed.out.step cz);have gJ:=mi.out.ob cz;obtain⟨lZ,fO,tY⟩:=ZH3 kS gJ gJ.lt;clear eG kS gJ cz pA;go_wp2_with fail;refine(Zo7 H.out lZ.out rfl).mono ?_;rintro _ w2 ⟨v2,rfl,dV,cD⟩;obtain⟨a2,dy,rfl,ju⟩:=EvSl.ae dV;have cX:=da.out.step cD;have gm:=fO.out.ob cD;have yu:=dV;obtain⟨cU,fk,iI,i8,MZ⟩:=ZH5 (cX.alloc (C_ (Za f (S_ a2 f.events.length dy)) 158)) (gm.alloc (C_ (Za f (S_ a2 f.events.length dy)) 158)) (ZBn w2 158 (Za f (S_ a2 f.events.length dy))) (ju.below ((ZW w2.heap.size w2).alloc (ZL _) (C_ (Za f (S_ a2 f.events.length dy)) 158))) (yu.alloc (C_ (Za f (S_ a2 f.events.length dy)) 158));have VG:w.heap.size<w2.heap.size:=gm.lt;clear dV ju cX gm yu cD;go_wp2_with fail;refine(Zf4 H.out i8.out).mono ?_;rintro _ w4 ⟨v4,rfl,iO,cS⟩;obtain⟨a4,ja,rfl,sL⟩:=Bytes.ae iO;have dM:=cU.out.step cS;obtain⟨gy,dw,tV,gS,jA,ue⟩:=ZH6 (HB.out.kept dM.below (ZL _)) dM sL (fk.out.ob cS) (iI.out.ob cS) (Ze MZ.out cS);clear iO sL dM cS;go_wp2_with fail;refine(ZjA tV.out gy.out).mono ?_;rintro _ w5 ⟨rfl,dH⟩;obtain⟨fN,io,qb,uf⟩:=ZH4 (dw.out.step dH) (gS.out.ob dH) (jA.out.ob dH) (Ze ue.out dH);clear dH
 go_wp2_with (first
  |(refine wpList_load_row rfl 158 (.tmp 6) rfl w2.heap.size rfl 158 (Za f (S_ a2 f.events.length dy)) (0,0) _ qb.out underlying158 rfl (Zaz _ _) ?_)
  |(refine wpList_store_row rfl 158 (.tmp 2) (.tmp 43) rfl w.heap.size (Za f (S_ a2 f.events.length dy)) rfl rfl 158 (Za ⟨0,0,0,ZCz,[]⟩ (S_ none 0 0)) io.out (Zaz _ _) rfl (Zbt _ _ _ _) ?_))
 refine bodyPost_ret (Zq rfl rfl rfl (run_loadVar_row _ _ _ _ _ _ _ (io.out.row _) underlying158 rfl (Zaz _ _))) rfl ?_;refine⟨_,rfl,Zj (Zi uf.out (λg hg _=>setRow_other _ _ _ _ (by have:=Zb uf.out hg;have:=tY.out;omega))) da.out.le,(fN.out.row (ZL _) _).below⟩
theorem Zk4(hb:Bytes w a n cap l)(hs:∀x∈l,x<256)(hn:n<=2048)(gY:¬ZdL l):
  Calls prog 92 #[S_ a n cap] w (Zx (.tuple #[Zah ⟨0,0,0,ZCz,[]⟩ (S_ none 0 0),I_ J_ 4]) w):=by
 have fI:¬((2048:Int)<(n:Int)):=ZO;have cR:=(ZKr w).alloc (C_ (Za ⟨0,0,0,ZCz,[]⟩ (S_ none 0 0)) 158);obtain⟨mi,eh,ed,HS,tc⟩:=ZH5 (ZBn w 158 (Za ⟨0,0,0,ZCz,[]⟩ (S_ none 0 0))) (hb.kept cR.below (ZL _)) cR hs gY;clear hb cR hs gY;go_enter func92,ntmps92;go_wp2_with fail;refine(Zjj eh.out HS.out ZO).mono ?_;rintro _ w1 hP;rcases hP with ⟨ho,_⟩|⟨_,rfl,cz⟩
 ·exact absurd ho tc.out
 obtain⟨fO,da⟩:=ZH2 (mi.out.ob cz) (ed.out.step cz);clear cz
 go_wp2_with (first
  |(refine Zat rfl 158 _ rfl (Za ⟨0,0,0,ZCz,[]⟩ (S_ none 0 0)) ZK ?_)
  |(refine wpList_store_row rfl 158 (.tmp 2) (.tmp 20) rfl w.heap.size (Za ⟨0,0,0,ZCz,[]⟩ (S_ none 0 0)) rfl rfl 158 (Za ⟨0,0,0,ZCz,[]⟩ (S_ none 0 0)) fO.out (Zaz _ _) rfl (Zbt _ _ _ _) ?_))
 refine bodyPost_ret (Zq rfl rfl rfl (run_loadVar_row _ _ _ _ _ _ _ (fO.out.row _) underlying158 rfl (Zaz _ _))) rfl ?_;exact⟨rfl,(da.out.row (ZL _) _).below⟩
structure RecOk(f:Frm):Prop where
 kind1:1<=f.kind
 kind6:f.kind<=6
 r:f.r<5
 upto:f.upto<=1048576
 upto0:f.kind≠3->f.kind≠4->f.upto=0
 clock:∀i,f.clock.get i<=1048576
 clock0:f.kind≠6->f.clock=ZCz
 events:∀e∈f.events,e.Ok
 len:f.events.length<=1000
 one:f.kind=1->f.events.length=1
 events0:f.kind=3∨f.kind=6->f.events=[]
theorem Znb{fn:Func}{t u v x:Tmp}(h:fn.results=#[.tmp t,.tmp u,.tmp v,.tmp x])(tmps:Array Value)(P:Program)(w:World):
  (results fn tmps).run P w=.ok (.tuple #[tmps.getD t undef,tmps.getD u undef,tmps.getD v undef,tmps.getD x undef]) w:=by
 simp[results,h]
def upK(k:Nat):Bool:=decide (k=3∨k=4)
def evK(k:Nat):Bool:=decide (k=1∨k=2∨k=4∨k=5)
def clK(k:Nat):Bool:=decide (k=6)
theorem ZaR(k:Nat)(h1:1<=k)(h6:k<=6)(w:World):Calls prog 159 #[I_ J_ k] w (Zx (.tuple #[B_ (upK k),B_ (evK k),B_ (clK k),B_ true]) w):=by
 rcases(by omega:k=1∨k=2∨k=3∨k=4∨k=5∨k=6) with rfl|rfl|rfl|rfl|rfl|rfl
 all_goals
  go_enter func159,ntmps159;go_wp2_with fail;refine bodyPost_ret (Znb rfl _ _ _) rfl ?_;exact⟨rfl,ZW _ _⟩
theorem Zcd(k:Nat)(h:k<=1048576)(w:World):Calls prog 187 #[I_ J_ k] w (Zx (B_ true) w):=by
 have h0:(0:Int)<=(k:Int):=ZO;have h1:(k:Int)<=1048576:=ZO;go_enter func187,ntmps187;go_wp2
 go_ret;exact⟨ZM,ZW _ _⟩
theorem ZsG(h:RecOk f)(dZ:f.kind=3)(hs:EvSl w a n cap f.events):Calls prog 158 #[Zah f (S_ a n cap)] w (Zx (B_ true) w):=by
 have hlen:=h.len;have fS:=hs.2.2.1;have hr:=h.r;have dJ:=h.upto;have dP:=h.one;obtain⟨kind,r,upto,clock,events⟩:=f;simp only[]at dZ hlen fS hr dJ hs dP;subst dZ;have H:=ZH h;clear h;have eo:clock=ZCz:=H.out.clock0 ZM;have li:events=[]:=H.out.events0 ZM;subst eo li;obtain rfl:n=0:=fS.symm;clear dP;have FR:∃F:Frm,F=⟨3,r,upto,ZCz,[]⟩:=⟨_,rfl⟩;clear FR;have cR:=(ZKr w).alloc (C_ (Za ⟨3,r,upto,ZCz,[]⟩ (S_ a 0 cap)) 150);have cP:=ZBn w 150 (Za ⟨3,r,upto,ZCz,[]⟩ (S_ a 0 cap));have eu:=hs.below cR.below;have r0:(0:Int)<=(r:Int):=ZO;have r5:(r:Int)<5:=ZO;have Ed:¬((r:Int)<0):=ZO;have Ee:¬((5:Int)<=(r:Int)):=ZO;obtain⟨ed,eh,fZ⟩:=ZH3 cR cP eu;clear cR cP eu hs;have lD:=ZaR 3 ZO ZO;rw[show upK 3=true from rfl,show evK 3=false from rfl,show clK 3=false from rfl]at lD;have sy:=Zc1;have sI:¬((4096:Int)<(0:Int)):=ZO;go_enter func158,ntmps158;go_wp2_with fail;refine(lD _).mono ?_;rintro _ w1 ⟨rfl,cz⟩;obtain⟨da,dj,fl⟩:=ZH3 (ed.out.step cz) (eh.out.ob cz) (fZ.out.below cz);clear cz lD;obtain⟨c0,c1,c2,c3,c4,c5,c6,c7,c8⟩:=dj.out.nine;have cI:=dj.out.lt;go_wp2_with fail;refine(Zcd upto ZO _).mono ?_;rintro _ w2 ⟨rfl,cD⟩;obtain⟨cO,df,fB⟩:=ZH3 (da.out.step cD) (dj.out.ob cD) (fl.out.below cD);clear cD c0 c1 c2 c3 c4 c5 c6 c7 c8 cI;obtain⟨c0,c1,c2,c3,c4,c5,c6,c7,c8⟩:=df.out.nine;have cI:=df.out.lt;go_wp2_with fail;go_loopw [8,45] (λ_ i wr=>∃k:Nat,k<=5/\i=I_ J_ k/\Hid (K_ w2 wr)) (λ_ i _=>5-(intOf i).toNat)
 case atStart=>exact⟨0,ZO,rfl,ZH (ZKr _)⟩
 case round =>
  obtain⟨k,hk,rfl,dG⟩:=hrel;by_cases eM:k<5
  ·have kn:(k:Int)<5:=ZO;have kO:=λw=>Zao ZCz k eM w
   go_wp2_with fail;refine(Zcd (ZCz.get k) (H.out.clock k) _).mono ?_;rintro _ w3 ⟨rfl,cG⟩;have cU:=ZH (dG.out.step cG);clear cG;go_wp2
   go_roundw
   case rel=>exact⟨k+1,ZO,ZN,cU⟩
   case measure=>simp[intOf];omega
  ·obtain rfl:k=5:=ZO;obtain⟨dN,i8,cU⟩:=ZH3 (df.out.ob dG.out.below) (fB.out.below dG.out.below) (cO.out.trans dG.out cO.out.le);clear c0 c1 c2 c3 c4 c5 c6 c7 c8 cI;obtain⟨c0,c1,c2,c3,c4,c5,c6,c7,c8⟩:=dN.out.nine;have cI:=dN.out.lt;go_wp2_with fail;go_loopw [82] (λi kZ=>∃q:Nat,q<=0/\i=I_ J_ q/\Hid (K_ wr kZ)) (λi _=>0-(intOf i).toNat)
   case atStart=>exact⟨0,ZO,rfl,ZH (ZKr _)⟩
   case round =>
    obtain⟨q,hq,rfl,ij⟩:=hrel;by_cases du:q<0
    ·omega
    ·obtain rfl:q=0:=ZO;have mo:=dN.out.ob ij.out.below;clear c0 c1 c2 c3 c4 c5 c6 c7 c8 cI;obtain⟨c0,c1,c2,c3,c4,c5,c6,c7,c8⟩:=mo.nine;have cI:=mo.lt;clear mo;go_wp2
     go_ret;exact⟨ZM,(cU.out.trans ij.out cU.out.le).below⟩
theorem ZsJ(h:RecOk f)(dZ:f.kind=6)(hs:EvSl w a n cap f.events):Calls prog 158 #[Zah f (S_ a n cap)] w (Zx (B_ true) w):=by
 have hlen:=h.len;have fS:=hs.2.2.1;have hr:=h.r;have dJ:=h.upto;have dP:=h.one;obtain⟨kind,r,upto,clock,events⟩:=f;simp only[]at dZ hlen fS hr dJ hs dP;subst dZ;have H:=ZH h;clear h;have dt:upto=0:=H.out.upto0 ZM ZM;have li:events=[]:=H.out.events0 ZM;subst dt li;obtain rfl:n=0:=fS.symm;clear dP;have FR:∃F:Frm,F=⟨6,r,0,clock,[]⟩:=⟨_,rfl⟩;clear FR;have cR:=(ZKr w).alloc (C_ (Za ⟨6,r,0,clock,[]⟩ (S_ a 0 cap)) 150);have cP:=ZBn w 150 (Za ⟨6,r,0,clock,[]⟩ (S_ a 0 cap));have eu:=hs.below cR.below;have r0:(0:Int)<=(r:Int):=ZO;have r5:(r:Int)<5:=ZO;have Ed:¬((r:Int)<0):=ZO;have Ee:¬((5:Int)<=(r:Int)):=ZO;obtain⟨ed,eh,fZ⟩:=ZH3 cR cP eu;clear cR cP eu hs;have lD:=ZaR 6 ZO ZO;rw[show upK 6=false from rfl,show evK 6=false from rfl,show clK 6=true from rfl]at lD;have sy:=Zc1;have sI:¬((4096:Int)<(0:Int)):=ZO;go_enter func158,ntmps158;go_wp2_with fail;refine(lD _).mono ?_;rintro _ w1 ⟨rfl,cz⟩;obtain⟨da,dj,fl⟩:=ZH3 (ed.out.step cz) (eh.out.ob cz) (fZ.out.below cz);clear cz lD;obtain⟨c0,c1,c2,c3,c4,c5,c6,c7,c8⟩:=dj.out.nine;have cI:=dj.out.lt;go_wp2_with fail;refine(Zcd 0 ZO _).mono ?_;rintro _ w2 ⟨rfl,cD⟩;obtain⟨cO,df,fB⟩:=ZH3 (da.out.step cD) (dj.out.ob cD) (fl.out.below cD);clear cD c0 c1 c2 c3 c4 c5 c6 c7 c8 cI;obtain⟨c0,c1,c2,c3,c4,c5,c6,c7,c8⟩:=df.out.nine;have cI:=df.out.lt;go_wp2_with fail;go_loopw [8,45] (λ_ i wr=>∃k:Nat,k<=5/\i=I_ J_ k/\Hid (K_ w2 wr)) (λ_ i _=>5-(intOf i).toNat)
 case atStart=>exact⟨0,ZO,rfl,ZH (ZKr _)⟩
 case round =>
  obtain⟨k,hk,rfl,dG⟩:=hrel;by_cases eM:k<5
  ·have kn:(k:Int)<5:=ZO;have kO:=λw=>Zao clock k eM w
   go_wp2_with fail;refine(Zcd (clock.get k) (H.out.clock k) _).mono ?_;rintro _ w3 ⟨rfl,cG⟩;have cU:=ZH (dG.out.step cG);clear cG;go_wp2
   go_roundw
   case rel=>exact⟨k+1,ZO,ZN,cU⟩
   case measure=>simp[intOf];omega
  ·obtain rfl:k=5:=ZO;obtain⟨dN,i8,cU⟩:=ZH3 (df.out.ob dG.out.below) (fB.out.below dG.out.below) (cO.out.trans dG.out cO.out.le);clear c0 c1 c2 c3 c4 c5 c6 c7 c8 cI;obtain⟨c0,c1,c2,c3,c4,c5,c6,c7,c8⟩:=dN.out.nine;have cI:=dN.out.lt;go_wp2_with fail;go_loopw [82] (λi kZ=>∃q:Nat,q<=0/\i=I_ J_ q/\Hid (K_ wr kZ)) (λi _=>0-(intOf i).toNat)
   case atStart=>exact⟨0,ZO,rfl,ZH (ZKr _)⟩
   case round =>
    obtain⟨q,hq,rfl,ij⟩:=hrel;by_cases du:q<0
    ·omega
    ·obtain rfl:q=0:=ZO;have mo:=dN.out.ob ij.out.below;clear c0 c1 c2 c3 c4 c5 c6 c7 c8 cI;obtain⟨c0,c1,c2,c3,c4,c5,c6,c7,c8⟩:=mo.nine;have cI:=mo.lt;clear mo;go_wp2
     go_ret;exact⟨ZM,(cU.out.trans ij.out cU.out.le).below⟩
theorem ZsH(h:RecOk f)(dZ:f.kind=4)(hs:EvSl w a n cap f.events):Calls prog 158 #[Zah f (S_ a n cap)] w (Zx (B_ true) w):=by
 have hlen:=h.len;have fS:=hs.2.2.1;have hr:=h.r;have dJ:=h.upto;have dP:=h.one;obtain⟨kind,r,upto,clock,events⟩:=f;simp only[]at dZ hlen fS hr dJ hs dP;subst dZ;have H:=ZH h;clear h;have eo:clock=ZCz:=H.out.clock0 ZM;subst eo;clear dP;have FR:∃F:Frm,F=⟨4,r,upto,ZCz,events⟩:=⟨_,rfl⟩;clear FR;have cR:=(ZKr w).alloc (C_ (Za ⟨4,r,upto,ZCz,events⟩ (S_ a n cap)) 150);have cP:=ZBn w 150 (Za ⟨4,r,upto,ZCz,events⟩ (S_ a n cap));have eu:=hs.below cR.below;have r0:(0:Int)<=(r:Int):=ZO;have r5:(r:Int)<5:=ZO;have Ed:¬((r:Int)<0):=ZO;have Ee:¬((5:Int)<=(r:Int)):=ZO;obtain⟨ed,eh,fZ⟩:=ZH3 cR cP eu;clear cR cP eu hs;have lD:=ZaR 4 ZO ZO;rw[show upK 4=true from rfl,show evK 4=true from rfl,show clK 4=false from rfl]at lD;have sy:=Zc1;have sI:¬((4096:Int)<(n:Int)):=ZO;go_enter func158,ntmps158;go_wp2_with fail;refine(lD _).mono ?_;rintro _ w1 ⟨rfl,cz⟩;obtain⟨da,dj,fl⟩:=ZH3 (ed.out.step cz) (eh.out.ob cz) (fZ.out.below cz);clear cz lD;obtain⟨c0,c1,c2,c3,c4,c5,c6,c7,c8⟩:=dj.out.nine;have cI:=dj.out.lt;go_wp2_with fail;refine(Zcd upto ZO _).mono ?_;rintro _ w2 ⟨rfl,cD⟩;obtain⟨cO,df,fB⟩:=ZH3 (da.out.step cD) (dj.out.ob cD) (fl.out.below cD);clear cD c0 c1 c2 c3 c4 c5 c6 c7 c8 cI;obtain⟨c0,c1,c2,c3,c4,c5,c6,c7,c8⟩:=df.out.nine;have cI:=df.out.lt;go_wp2_with fail;go_loopw [8,45] (λ_ i wr=>∃k:Nat,k<=5/\i=I_ J_ k/\Hid (K_ w2 wr)) (λ_ i _=>5-(intOf i).toNat)
 case atStart=>exact⟨0,ZO,rfl,ZH (ZKr _)⟩
 case round =>
  obtain⟨k,hk,rfl,dG⟩:=hrel;by_cases eM:k<5
  ·have kn:(k:Int)<5:=ZO;have kO:=λw=>Zao ZCz k eM w
   go_wp2_with fail;refine(Zcd (ZCz.get k) (H.out.clock k) _).mono ?_;rintro _ w3 ⟨rfl,cG⟩;have cU:=ZH (dG.out.step cG);clear cG;go_wp2
   go_roundw
   case rel=>exact⟨k+1,ZO,ZN,cU⟩
   case measure=>simp[intOf];omega
  ·obtain rfl:k=5:=ZO;obtain⟨dN,i8,cU⟩:=ZH3 (df.out.ob dG.out.below) (fB.out.below dG.out.below) (cO.out.trans dG.out cO.out.le);clear c0 c1 c2 c3 c4 c5 c6 c7 c8 cI;obtain⟨c0,c1,c2,c3,c4,c5,c6,c7,c8⟩:=dN.out.nine;have cI:=dN.out.lt;go_wp2_with fail;go_loopw [82] (λi kZ=>∃q:Nat,q<=n/\i=I_ J_ q/\Hid (K_ wr kZ)) (λi _=>n-(intOf i).toNat)
   case atStart=>exact⟨0,ZO,rfl,ZH (ZKr _)⟩
   case round =>
    obtain⟨q,hq,rfl,ij⟩:=hrel;by_cases du:q<n
    ·obtain⟨e,he⟩:∃e,events[q]? = some e:=⟨_,ZX (by rw[fS];exact du)⟩;have l6:=ZY he;have ep:=ZH (H.out.events e l6);have iP:=i8.out.below ij.out.below;obtain⟨bk,off,rfl,cW,e0,e1,e2,e3,e4,e5,e6,e7,e8,e9,jj,jI⟩:=iP.at_ he;have hx:=ZBn wr 89 (evArr e);obtain⟨x0,x1,x2,x3,x4,x5,x6,x7,x8,x9,fh,fi⟩:=hx.ag;have iF:=ZH (ij.out.alloc (C_ (evArr e) 89));clear iP he l6 hx;go_wp2_with fail;refine(Ze5 e _ ep.out).mono ?_;rintro _ w5 ⟨rfl,dH⟩;have fN:=ZH (iF.out.step dH);clear dH x0 x1 x2 x3 x4 x5 x6 x7 x8 x9 fh fi;go_wp2
     go_roundw
     case rel=>exact⟨q+1,ZO,ZN,fN⟩
     case measure=>simp[intOf];omega
    ·obtain rfl:q=n:=ZO;have mo:=dN.out.ob ij.out.below;clear c0 c1 c2 c3 c4 c5 c6 c7 c8 cI;obtain⟨c0,c1,c2,c3,c4,c5,c6,c7,c8⟩:=mo.nine;have cI:=mo.lt;clear mo;go_wp2
     go_ret;exact⟨ZM,(cU.out.trans ij.out cU.out.le).below⟩
theorem ZsI(h:RecOk f)(dZ:f.kind=5)(hs:EvSl w a n cap f.events):Calls prog 158 #[Zah f (S_ a n cap)] w (Zx (B_ true) w):=by
 have hlen:=h.len;have fS:=hs.2.2.1;have hr:=h.r;have dJ:=h.upto;have dP:=h.one;obtain⟨kind,r,upto,clock,events⟩:=f;simp only[]at dZ hlen fS hr dJ hs dP;subst dZ;have H:=ZH h;clear h;have eo:clock=ZCz:=H.out.clock0 ZM;have dt:upto=0:=H.out.upto0 ZM ZM;subst eo dt;clear dP;have FR:∃F:Frm,F=⟨5,r,0,ZCz,events⟩:=⟨_,rfl⟩;clear FR;have cR:=(ZKr w).alloc (C_ (Za ⟨5,r,0,ZCz,events⟩ (S_ a n cap)) 150);have cP:=ZBn w 150 (Za ⟨5,r,0,ZCz,events⟩ (S_ a n cap));have eu:=hs.below cR.below;have r0:(0:Int)<=(r:Int):=ZO;have r5:(r:Int)<5:=ZO;have Ed:¬((r:Int)<0):=ZO;have Ee:¬((5:Int)<=(r:Int)):=ZO;obtain⟨ed,eh,fZ⟩:=ZH3 cR cP eu;clear cR cP eu hs;have lD:=ZaR 5 ZO ZO;rw[show upK 5=false from rfl,show evK 5=true from rfl,show clK 5=false from rfl]at lD;have sy:=Zc1;have sI:¬((4096:Int)<(n:Int)):=ZO;go_enter func158,ntmps158;go_wp2_with fail;refine(lD _).mono ?_;rintro _ w1 ⟨rfl,cz⟩;obtain⟨da,dj,fl⟩:=ZH3 (ed.out.step cz) (eh.out.ob cz) (fZ.out.below cz);clear cz lD;obtain⟨c0,c1,c2,c3,c4,c5,c6,c7,c8⟩:=dj.out.nine;have cI:=dj.out.lt;go_wp2_with fail;refine(Zcd 0 ZO _).mono ?_;rintro _ w2 ⟨rfl,cD⟩;obtain⟨cO,df,fB⟩:=ZH3 (da.out.step cD) (dj.out.ob cD) (fl.out.below cD);clear cD c0 c1 c2 c3 c4 c5 c6 c7 c8 cI;obtain⟨c0,c1,c2,c3,c4,c5,c6,c7,c8⟩:=df.out.nine;have cI:=df.out.lt;go_wp2_with fail;go_loopw [8,45] (λ_ i wr=>∃k:Nat,k<=5/\i=I_ J_ k/\Hid (K_ w2 wr)) (λ_ i _=>5-(intOf i).toNat)
 case atStart=>exact⟨0,ZO,rfl,ZH (ZKr _)⟩
 case round =>
  obtain⟨k,hk,rfl,dG⟩:=hrel;by_cases eM:k<5
  ·have kn:(k:Int)<5:=ZO;have kO:=λw=>Zao ZCz k eM w
   go_wp2_with fail;refine(Zcd (ZCz.get k) (H.out.clock k) _).mono ?_;rintro _ w3 ⟨rfl,cG⟩;have cU:=ZH (dG.out.step cG);clear cG;go_wp2
   go_roundw
   case rel=>exact⟨k+1,ZO,ZN,cU⟩
   case measure=>simp[intOf];omega
  ·obtain rfl:k=5:=ZO;obtain⟨dN,i8,cU⟩:=ZH3 (df.out.ob dG.out.below) (fB.out.below dG.out.below) (cO.out.trans dG.out cO.out.le);clear c0 c1 c2 c3 c4 c5 c6 c7 c8 cI;obtain⟨c0,c1,c2,c3,c4,c5,c6,c7,c8⟩:=dN.out.nine;have cI:=dN.out.lt;go_wp2_with fail;go_loopw [82] (λi kZ=>∃q:Nat,q<=n/\i=I_ J_ q/\Hid (K_ wr kZ)) (λi _=>n-(intOf i).toNat)
   case atStart=>exact⟨0,ZO,rfl,ZH (ZKr _)⟩
   case round =>
    obtain⟨q,hq,rfl,ij⟩:=hrel;by_cases du:q<n
    ·obtain⟨e,he⟩:∃e,events[q]? = some e:=⟨_,ZX (by rw[fS];exact du)⟩;have l6:=ZY he;have ep:=ZH (H.out.events e l6);have iP:=i8.out.below ij.out.below;obtain⟨bk,off,rfl,cW,e0,e1,e2,e3,e4,e5,e6,e7,e8,e9,jj,jI⟩:=iP.at_ he;have hx:=ZBn wr 89 (evArr e);obtain⟨x0,x1,x2,x3,x4,x5,x6,x7,x8,x9,fh,fi⟩:=hx.ag;have iF:=ZH (ij.out.alloc (C_ (evArr e) 89));clear iP he l6 hx;go_wp2_with fail;refine(Ze5 e _ ep.out).mono ?_;rintro _ w5 ⟨rfl,dH⟩;have fN:=ZH (iF.out.step dH);clear dH x0 x1 x2 x3 x4 x5 x6 x7 x8 x9 fh fi;go_wp2
     go_roundw
     case rel=>exact⟨q+1,ZO,ZN,fN⟩
     case measure=>simp[intOf];omega
    ·obtain rfl:q=n:=ZO;have mo:=dN.out.ob ij.out.below;clear c0 c1 c2 c3 c4 c5 c6 c7 c8 cI;obtain⟨c0,c1,c2,c3,c4,c5,c6,c7,c8⟩:=mo.nine;have cI:=mo.lt;clear mo;go_wp2
     go_ret;exact⟨ZM,(cU.out.trans ij.out cU.out.le).below⟩
theorem ZsE(h:RecOk f)(dZ:f.kind=1)(hs:EvSl w a n cap f.events):Calls prog 158 #[Zah f (S_ a n cap)] w (Zx (B_ true) w):=by
 have hlen:=h.len;have fS:=hs.2.2.1;have hr:=h.r;have dJ:=h.upto;have dP:=h.one;obtain⟨kind,r,upto,clock,events⟩:=f;simp only[]at dZ hlen fS hr dJ hs dP;subst dZ;have H:=ZH h;clear h;have eo:clock=ZCz:=H.out.clock0 ZM;have dt:upto=0:=H.out.upto0 ZM ZM;subst eo dt;have hn1I:((n:Int)==1)=true:=by
  have:=dP rfl;simp;omega
 clear dP;have FR:∃F:Frm,F=⟨1,r,0,ZCz,events⟩:=⟨_,rfl⟩;clear FR;have cR:=(ZKr w).alloc (C_ (Za ⟨1,r,0,ZCz,events⟩ (S_ a n cap)) 150);have cP:=ZBn w 150 (Za ⟨1,r,0,ZCz,events⟩ (S_ a n cap));have eu:=hs.below cR.below;have r0:(0:Int)<=(r:Int):=ZO;have r5:(r:Int)<5:=ZO;have Ed:¬((r:Int)<0):=ZO;have Ee:¬((5:Int)<=(r:Int)):=ZO;obtain⟨ed,eh,fZ⟩:=ZH3 cR cP eu;clear cR cP eu hs;have lD:=ZaR 1 ZO ZO;rw[show upK 1=false from rfl,show evK 1=true from rfl,show clK 1=false from rfl]at lD;have sy:=Zc1;have sI:¬((4096:Int)<(n:Int)):=ZO;go_enter func158,ntmps158;go_wp2_with fail;refine(lD _).mono ?_;rintro _ w1 ⟨rfl,cz⟩;obtain⟨da,dj,fl⟩:=ZH3 (ed.out.step cz) (eh.out.ob cz) (fZ.out.below cz);clear cz lD;obtain⟨c0,c1,c2,c3,c4,c5,c6,c7,c8⟩:=dj.out.nine;have cI:=dj.out.lt;go_wp2_with fail;refine(Zcd 0 ZO _).mono ?_;rintro _ w2 ⟨rfl,cD⟩;obtain⟨cO,df,fB⟩:=ZH3 (da.out.step cD) (dj.out.ob cD) (fl.out.below cD);clear cD c0 c1 c2 c3 c4 c5 c6 c7 c8 cI;obtain⟨c0,c1,c2,c3,c4,c5,c6,c7,c8⟩:=df.out.nine;have cI:=df.out.lt;go_wp2_with fail;go_loopw [8,45] (λ_ i wr=>∃k:Nat,k<=5/\i=I_ J_ k/\Hid (K_ w2 wr)) (λ_ i _=>5-(intOf i).toNat)
 case atStart=>exact⟨0,ZO,rfl,ZH (ZKr _)⟩
 case round =>
  obtain⟨k,hk,rfl,dG⟩:=hrel;by_cases eM:k<5
  ·have kn:(k:Int)<5:=ZO;have kO:=λw=>Zao ZCz k eM w
   go_wp2_with fail;refine(Zcd (ZCz.get k) (H.out.clock k) _).mono ?_;rintro _ w3 ⟨rfl,cG⟩;have cU:=ZH (dG.out.step cG);clear cG;go_wp2
   go_roundw
   case rel=>exact⟨k+1,ZO,ZN,cU⟩
   case measure=>simp[intOf];omega
  ·obtain rfl:k=5:=ZO;obtain⟨dN,i8,cU⟩:=ZH3 (df.out.ob dG.out.below) (fB.out.below dG.out.below) (cO.out.trans dG.out cO.out.le);clear c0 c1 c2 c3 c4 c5 c6 c7 c8 cI;obtain⟨c0,c1,c2,c3,c4,c5,c6,c7,c8⟩:=dN.out.nine;have cI:=dN.out.lt;go_wp2_with fail;go_loopw [82] (λi kZ=>∃q:Nat,q<=n/\i=I_ J_ q/\Hid (K_ wr kZ)) (λi _=>n-(intOf i).toNat)
   case atStart=>exact⟨0,ZO,rfl,ZH (ZKr _)⟩
   case round =>
    obtain⟨q,hq,rfl,ij⟩:=hrel;by_cases du:q<n
    ·obtain⟨e,he⟩:∃e,events[q]? = some e:=⟨_,ZX (by rw[fS];exact du)⟩;have l6:=ZY he;have ep:=ZH (H.out.events e l6);have iP:=i8.out.below ij.out.below;obtain⟨bk,off,rfl,cW,e0,e1,e2,e3,e4,e5,e6,e7,e8,e9,jj,jI⟩:=iP.at_ he;have hx:=ZBn wr 89 (evArr e);obtain⟨x0,x1,x2,x3,x4,x5,x6,x7,x8,x9,fh,fi⟩:=hx.ag;have iF:=ZH (ij.out.alloc (C_ (evArr e) 89));clear iP he l6 hx;go_wp2_with fail;refine(Ze5 e _ ep.out).mono ?_;rintro _ w5 ⟨rfl,dH⟩;have fN:=ZH (iF.out.step dH);clear dH x0 x1 x2 x3 x4 x5 x6 x7 x8 x9 fh fi;go_wp2
     go_roundw
     case rel=>exact⟨q+1,ZO,ZN,fN⟩
     case measure=>simp[intOf];omega
    ·obtain rfl:q=n:=ZO;have mo:=dN.out.ob ij.out.below;clear c0 c1 c2 c3 c4 c5 c6 c7 c8 cI;obtain⟨c0,c1,c2,c3,c4,c5,c6,c7,c8⟩:=mo.nine;have cI:=mo.lt;clear mo;go_wp2
     go_ret;exact⟨ZM,(cU.out.trans ij.out cU.out.le).below⟩
theorem ZsF(h:RecOk f)(dZ:f.kind=2)(hs:EvSl w a n cap f.events):Calls prog 158 #[Zah f (S_ a n cap)] w (Zx (B_ true) w):=by
 have hlen:=h.len;have fS:=hs.2.2.1;have hr:=h.r;have dJ:=h.upto;have dP:=h.one;obtain⟨kind,r,upto,clock,events⟩:=f;simp only[]at dZ hlen fS hr dJ hs dP;subst dZ;have H:=ZH h;clear h;have eo:clock=ZCz:=H.out.clock0 ZM;have dt:upto=0:=H.out.upto0 ZM ZM;subst eo dt;clear dP;have FR:∃F:Frm,F=⟨2,r,0,ZCz,events⟩:=⟨_,rfl⟩;clear FR;have cR:=(ZKr w).alloc (C_ (Za ⟨2,r,0,ZCz,events⟩ (S_ a n cap)) 150);have cP:=ZBn w 150 (Za ⟨2,r,0,ZCz,events⟩ (S_ a n cap));have eu:=hs.below cR.below;have r0:(0:Int)<=(r:Int):=ZO;have r5:(r:Int)<5:=ZO;have Ed:¬((r:Int)<0):=ZO;have Ee:¬((5:Int)<=(r:Int)):=ZO;obtain⟨ed,eh,fZ⟩:=ZH3 cR cP eu;clear cR cP eu hs;have lD:=ZaR 2 ZO ZO;rw[show upK 2=false from rfl,show evK 2=true from rfl,show clK 2=false from rfl]at lD;have sy:=Zc1;have sI:¬((4096:Int)<(n:Int)):=ZO;go_enter func158,ntmps158;go_wp2_with fail;refine(lD _).mono ?_;rintro _ w1 ⟨rfl,cz⟩;obtain⟨da,dj,fl⟩:=ZH3 (ed.out.step cz) (eh.out.ob cz) (fZ.out.below cz);clear cz lD;obtain⟨c0,c1,c2,c3,c4,c5,c6,c7,c8⟩:=dj.out.nine;have cI:=dj.out.lt;go_wp2_with fail;refine(Zcd 0 ZO _).mono ?_;rintro _ w2 ⟨rfl,cD⟩;obtain⟨cO,df,fB⟩:=ZH3 (da.out.step cD) (dj.out.ob cD) (fl.out.below cD);clear cD c0 c1 c2 c3 c4 c5 c6 c7 c8 cI;obtain⟨c0,c1,c2,c3,c4,c5,c6,c7,c8⟩:=df.out.nine;have cI:=df.out.lt;go_wp2_with fail;go_loopw [8,45] (λ_ i wr=>∃k:Nat,k<=5/\i=I_ J_ k/\Hid (K_ w2 wr)) (λ_ i _=>5-(intOf i).toNat)
 case atStart=>exact⟨0,ZO,rfl,ZH (ZKr _)⟩
 case round =>
  obtain⟨k,hk,rfl,dG⟩:=hrel;by_cases eM:k<5
  ·have kn:(k:Int)<5:=ZO;have kO:=λw=>Zao ZCz k eM w
   go_wp2_with fail;refine(Zcd (ZCz.get k) (H.out.clock k) _).mono ?_;rintro _ w3 ⟨rfl,cG⟩;have cU:=ZH (dG.out.step cG);clear cG;go_wp2
   go_roundw
   case rel=>exact⟨k+1,ZO,ZN,cU⟩
   case measure=>simp[intOf];omega
  ·obtain rfl:k=5:=ZO;obtain⟨dN,i8,cU⟩:=ZH3 (df.out.ob dG.out.below) (fB.out.below dG.out.below) (cO.out.trans dG.out cO.out.le);clear c0 c1 c2 c3 c4 c5 c6 c7 c8 cI;obtain⟨c0,c1,c2,c3,c4,c5,c6,c7,c8⟩:=dN.out.nine;have cI:=dN.out.lt;go_wp2_with fail;go_loopw [82] (λi kZ=>∃q:Nat,q<=n/\i=I_ J_ q/\Hid (K_ wr kZ)) (λi _=>n-(intOf i).toNat)
   case atStart=>exact⟨0,ZO,rfl,ZH (ZKr _)⟩
   case round =>
    obtain⟨q,hq,rfl,ij⟩:=hrel;by_cases du:q<n
    ·obtain⟨e,he⟩:∃e,events[q]? = some e:=⟨_,ZX (by rw[fS];exact du)⟩;have l6:=ZY he;have ep:=ZH (H.out.events e l6);have iP:=i8.out.below ij.out.below;obtain⟨bk,off,rfl,cW,e0,e1,e2,e3,e4,e5,e6,e7,e8,e9,jj,jI⟩:=iP.at_ he;have hx:=ZBn wr 89 (evArr e);obtain⟨x0,x1,x2,x3,x4,x5,x6,x7,x8,x9,fh,fi⟩:=hx.ag;have iF:=ZH (ij.out.alloc (C_ (evArr e) 89));clear iP he l6 hx;go_wp2_with fail;refine(Ze5 e _ ep.out).mono ?_;rintro _ w5 ⟨rfl,dH⟩;have fN:=ZH (iF.out.step dH);clear dH x0 x1 x2 x3 x4 x5 x6 x7 x8 x9 fh fi;go_wp2
     go_roundw
     case rel=>exact⟨q+1,ZO,ZN,fN⟩
     case measure=>simp[intOf];omega
    ·obtain rfl:q=n:=ZO;have mo:=dN.out.ob ij.out.below;clear c0 c1 c2 c3 c4 c5 c6 c7 c8 cI;obtain⟨c0,c1,c2,c3,c4,c5,c6,c7,c8⟩:=mo.nine;have cI:=mo.lt;clear mo;go_wp2
     go_ret;exact⟨ZM,(cU.out.trans ij.out cU.out.le).below⟩
theorem ZfD(h:RecOk f)(hs:EvSl w a n cap f.events):Calls prog 158 #[Zah f (S_ a n cap)] w (Zx (B_ true) w):=by
 have h1:=h.kind1;have h6:=h.kind6;rcases(by omega:f.kind=1∨f.kind=2∨f.kind=3∨f.kind=4∨f.kind=5∨f.kind=6) with hk|hk|hk|hk|hk|hk
 ·exact ZsE h hk hs
 ·exact ZsF h hk hs
 ·exact ZsG h hk hs
 ·exact ZsH h hk hs
 ·exact ZsI h hk hs
 ·exact ZsJ h hk hs
def Z2(f:Frm):List Nat:=[f.kind,f.r]++(if upK f.kind=true then Zd f.upto else [])++(if clK f.kind=true then Zz f.clock 5 else [])++(if evK f.kind=true then Zd f.events.length++Zg f.events else [])
def recBytes(f:Frm):List Nat:=Zd (ZaF (Z2 f)).length++ZaF (Z2 f)
theorem ZaM(h:RecOk f):∀x∈Z2 f,x<256:=by
 have h1:=h.kind6;have h2:=h.r;intro x hx;unfold Z2 at hx;rw[List.mem_append,List.mem_append,List.mem_append]at hx;rcases hx with ((hx|hx)|hx)|hx
 ·simp at hx;omega
 ·split at hx
  ·exact ZaH _ x hx
  ·simp at hx
 ·split at hx
  ·exact Zgc _ _ x hx
  ·simp at hx
 ·split at hx
  ·rw[List.mem_append]at hx;rcases hx with hx|hx
   ·exact ZaH _ x hx
   ·exact ZeD _ h.events x hx
  ·simp at hx
theorem Zbl(h:RecOk f):(Z2 f).length<=60100:=by
 have h1:=Zb3 _ h.events;have h2:=Zab 2 f.upto (by have:=h.upto;omega);have h3:=Zee h.clock 5;have h4:=h.len;have h5:=Zab 2 f.events.length ZO;unfold Z2;rw[ZI,ZI,ZI];have e1:(if upK f.kind=true then Zd f.upto else []).length<=3:=by split <;> first|omega|simp
 have e2:(if clK f.kind=true then Zz f.clock 5 else []).length<=15:=by split <;> first|omega|simp
 have e3:(if evK f.kind=true then Zd f.events.length++Zg f.events else []).length<=60003:=by split <;> first|(rw[ZI];omega)|simp
 simp only[List.length_cons,List.length_nil];omega
theorem ZsN(h:RecOk f)(dZ:f.kind=4)(hs:EvSl w a n cap f.events):Calls prog 115 #[Zah f (S_ a n cap)] w λr w'=>∃v,r=R_ (.tuple #[v,I_ J_ 0])/\w'.ownsRow w.heap.size 5 1 v (recBytes f).length (cells (recBytes f))/\L_ w w':=by
 have cY:=ZaM h;have cW:=Zbl h;have hlen:=h.len;have fS:=hs.2.2.1;have hr:=h.r;have dJ:=h.upto;have eD:=h.clock;obtain⟨kind,r,upto,clock,events⟩:=f;simp only[]at dZ hlen fS hr dJ hs eD;subst dZ;have H:=ZH h;clear h;have eo:clock=ZCz:=H.out.clock0 ZM;subst eo;obtain⟨LL,gp⟩:∃LL,LL=Z2 ⟨4,r,upto,ZCz,events⟩:=⟨_,rfl⟩;rw[←gp]at cY cW;have cR:=(ZKr w).alloc (C_ (Za ⟨4,r,upto,ZCz,events⟩ (S_ a n cap)) 150);have cP:=ZBn w 150 (Za ⟨4,r,upto,ZCz,events⟩ (S_ a n cap));have eu:=hs.below cR.below;have dD:IntKind.u8.wrap (r:Int)=(r:Int):=by rw[IntKind.wrap_u8];omega
 obtain⟨i0,hi,dd,cV,dc⟩:=info_parts ZaJ;obtain⟨c0,c1,c2,c3,c4,c5,c6,c7,c8⟩:=cP.nine;have cI:=cP.lt;obtain⟨ed,eh,fZ,lY,gA,gz⟩:=ZH6 cR cP eu eD cY gp;clear cR cP eu hs eD cY gp;go_enter func115,ntmps115;go_wp2_with fail;refine(ZfD H.out fZ.out).mono ?_;rintro _ w1 ⟨rfl,cz⟩;have da:=ZH (ed.out.step cz);have dm:=eh.out.ob cz;have fl:=ZH (fZ.out.below cz);clear c0 c1 c2 c3 c4 c5 c6 c7 c8 cI;obtain⟨c0,c1,c2,c3,c4,c5,c6,c7,c8⟩:=dm.nine;have cI:=dm.lt;have dj:=ZH dm;clear dm cz;go_wp2_with fail;refine(ZaR 4 ZO ZO _).mono ?_;rintro _ w2 ⟨rfl,cD⟩;rw[show upK 4=true from rfl,show evK 4=true from rfl,show clK 4=false from rfl];have cO:=ZH (da.out.step cD);have dx:=dj.out.ob cD;have fB:=ZH (fl.out.below cD);clear c0 c1 c2 c3 c4 c5 c6 c7 c8 cI;obtain⟨c0,c1,c2,c3,c4,c5,c6,c7,c8⟩:=dx.nine;have cI:=dx.lt;obtain⟨kB,iF,df⟩:=ZH3 (Zdh w2 4 r) ((ZKr w2).alloc (C_ #[.int .u8 (4:Nat),.int .u8 (r:Int)] 5)) dx;clear dx cD;go_wp2_with fail;refine(Zbg upto _ ZO).mono ?_;rintro _ wu ⟨vu,rfl,CJ,BU⟩;obtain⟨au,Nq,rfl,wB⟩:=Bytes.ae CJ;obtain⟨E9,tM,Mt⟩:=ZH3 (Ze kB.out BU) (iF.out.step BU) wB;have OY:=Zab 2 upto ZO;have C0:=tM.out.le;clear CJ wB BU c0 c1 c2 c3 c4 c5 c6 c7 c8;have qO:=df.out.ob tM.out.below;obtain⟨c0,c1,c2,c3,c4,c5,c6,c7,c8⟩:=qO.nine;have Hc:=qO.lt;clear qO
 go_wp2_with (first
  |(at_builtin
    refine Zc _ rfl (.tmp 35) (.tmp 39) _ rfl w2.heap.size 5 i0 _ 1 1 underlying106 hi dd cV dc rfl ZO (S_ (some ⟨w2.heap.size,0,none⟩) 2 2) 2 (cells [4,r]) rfl E9.out wu.heap.size au (Zd upto).length Nq (cells (Zd upto)) rfl Mt.out.reads (Z9 _) ZF ZO C0 ?_;intro WA PR iA qS _;obtain⟨Lu,xL⟩:∃Lu,Lu=[4,r]++Zd upto:=⟨_,rfl⟩;have F3:2+(Zd upto).length=Lu.length:=by rw[xL,ZI];try rfl
    rw[←Zv,←xL,F3]at iA;have tO:Hid (K_ w2 PR):=ZH ⟨tM.out.below.grown qS tM.out.le (λg hg=>(Zb E9.out hg).1),ZT tM.out.le qS.size⟩;obtain⟨QE,QL,rfl,_⟩:=Bytes.ae iA;have OE:Lu.length<=10:=ZO;obtain⟨xo,LT⟩:=ZH2 iA xL;clear iA xL F3 qS c0 c1 c2 c3 c4 c5 c6 c7 c8;have mA:=df.out.ob tO.out.below;obtain⟨c0,c1,c2,c3,c4,c5,c6,c7,c8⟩:=mA.nine;have CB:=mA.lt
    clear mA))
 refine(Zbg n _ ZO).mono ?_;rintro _ wn ⟨vn,rfl,nE,gW⟩;obtain⟨an,BG,rfl,pR⟩:=Bytes.ae nE;obtain⟨tZ,md,o7⟩:=ZH3 (Ze xo.out gW) (tO.out.step gW) pR;have CI:=Zab 2 n ZO;have rb:=md.out.le;clear nE pR gW c0 c1 c2 c3 c4 c5 c6 c7 c8;have jL:=df.out.ob md.out.below;obtain⟨c0,c1,c2,c3,c4,c5,c6,c7,c8⟩:=jL.nine;have vf:=jL.lt;clear jL
 go_wp2_with (first
  |(at_builtin
    refine Zc _ rfl (.tmp 54) (.tmp 59) _ rfl w2.heap.size 5 i0 _ 1 1 underlying106 hi dd cV dc rfl ZO (S_ QE Lu.length QL) Lu.length (cells Lu) rfl tZ.out wn.heap.size an (Zd n).length BG (cells (Zd n)) rfl o7.out.reads (Z9 _) ZF ZO rb ?_;intro PO Dm er jO _;obtain⟨Ln,oa⟩:∃Ln,Ln=Lu++Zd n:=⟨_,rfl⟩;have uC:Lu.length+(Zd n).length=Ln.length:=by rw[oa,ZI];try rfl
    rw[←Zv,←oa,uC]at er;have mf:Hid (K_ w2 Dm):=ZH ⟨md.out.below.grown jO md.out.le (λg hg=>(Zb tZ.out hg).1),ZT md.out.le jO.size⟩;obtain⟨Nj,Nr,rfl,_⟩:=Bytes.ae er;have Cv:Ln.length<=20:=ZO;obtain⟨qy,AY⟩:=ZH2 er oa;clear er oa uC jO c0 c1 c2 c3 c4 c5 c6 c7 c8;have gr:=df.out.ob mf.out.below;obtain⟨c0,c1,c2,c3,c4,c5,c6,c7,c8⟩:=gr.nine;have qZ:=gr.lt
    clear gr))
 clear c0 c1 c2 c3 c4 c5 c6 c7 c8;go_loopw [8,13,14,64] (λv _ _ i wr=>∃q:Nat,q<=n/\i=I_ J_ q/\Hid (wr.ownsRow w2.heap.size 5 1 v (Ln++Zg (events.take q)).length (cells (Ln++Zg (events.take q))))/\Hid (K_ w2 wr)) (λ_ _ _ i _=>n-(intOf i).toNat)
 case atStart=>exact⟨0,ZO,rfl,ZH (by simpa [Zg] using qy.out),mf⟩
 case round =>
  obtain⟨q,hq,rfl,HR,dG⟩:=hrel;obtain⟨av,cv,rfl,_⟩:=Bytes.ae HR.out;have fX:(Zg (events.take q)).length<=60*1000:=by
   have h1:=Zb3 (events.take q) (λe he=>H.out.events e (List.mem_of_mem_take he));have h2:(events.take q).length<=1000:=by rw[ZV];omega
   omega
  obtain⟨M,hM⟩:∃M,M=(Ln++Zg (events.take q)).length:=⟨_,rfl⟩;have uB:M<=70000:=by rw[hM,ZI];omega
  by_cases du:q<n
  ·rw[←hM]at HR ⊢;have HM:=ZH hM;clear hM fX;obtain⟨e,he⟩:∃e,events[q]? = some e:=⟨_,ZX (by rw[fS];exact du)⟩;have ep:=ZH (H.out.events e (ZY he));have iP:=fB.out.below dG.out.below;obtain⟨bk,off,rfl,cW,e0,e1,e2,e3,e4,e5,e6,e7,e8,e9,jj,jI⟩:=iP.at_ he;have hx:=ZBn wr 89 (evArr e);obtain⟨x0,x1,x2,x3,x4,x5,x6,x7,x8,x9,fh,fi⟩:=hx.ag;obtain⟨gc,t6,tN⟩:=ZH3 (ZcM he) (HR.out.alloc (C_ (evArr e) 89)) (dG.out.alloc (C_ (evArr e) 89));have uR:=Zc2 ep.out;clear iP he hx;go_wp2_with fail;refine(Zeg e _ ep.out).mono ?_;rintro _ w3 ⟨v3,rfl,fd,cG⟩;obtain⟨a3,n8,rfl,gO⟩:=Bytes.ae fd;have fk:=ZH (Ze t6.out cG);have dr:=tN.out.step cG;have iB:=dr.le;obtain⟨cU,ic⟩:=ZH2 dr gO;clear fd gO dr cG e0 e1 e2 e3 e4 e5 e6 e7 e8 e9 jj jI x0 x1 x2 x3 x4 x5 x6 x7 x8 x9 fh fi
   go_wp2_with (first
    |(at_builtin
      refine Zc _ rfl (.tmp 75) (.tmp 76) _ rfl w2.heap.size 5 i0 _ 1 1 underlying106 hi dd cV dc rfl ZO (S_ av M cv) M (cells (Ln++Zg (events.take q))) rfl fk.out w3.heap.size a3 (evBytes e).length n8 (cells (evBytes e)) rfl ic.out.reads (Z9 _) ZF ZO iB ?_;intro v4 w4 cJ dL _;rw[←Zv,HM.out,←ZI,List.append_assoc,←gc.out]at cJ;have dw:Hid (K_ w2 w4):=ZH (⟨cU.out.below.grown dL cU.out.le (λg hg=>(Zb fk.out hg).1),ZT cU.out.le dL.size⟩);have dO:=ZH cJ
      clear cJ dL))
   go_roundw
   case rel=>exact⟨q+1,ZO,ZN,dO,dw⟩
   case measure=>simp[intOf];omega
  ·obtain rfl:q=n:=ZO;rw[ZU ZO,show Ln++Zg events=LL by
    rw[gz.out,AY.out,LT.out];simp[Z2,upK,clK,evK,fS]]at HR ⊢
   have HO:=HR;have HK:=dG;clear hM fX;go_wp2_with fail;obtain⟨af,cf,uE,jl⟩:=Bytes.ae HO.out;injection uE with mv uF mw;subst mv mw;refine(ZcK jl gA.out ZO).mono ?_;rintro _ ws ⟨vs,rfl,i7,jm⟩;obtain⟨qc,cs,rfl,gP⟩:=Bytes.ae i7;obtain⟨me,iS⟩:=ZH2 (HK.out.step jm) gP;obtain⟨SL,iw⟩:∃SL,SL=ZaF LL:=⟨_,rfl⟩;have vF:SL.length<=60104:=by rw[iw,Zb7];omega
   rw[←iw]at iS ⊢;have jV:=ZH iw;clear i7 gP jm jl iw;go_wp2_with fail;refine(Zbg SL.length ws ZO).mono ?_;rintro _ wp ⟨vp,rfl,ia,fA⟩;obtain⟨ap,cp,rfl,_⟩:=Bytes.ae ia;obtain⟨jz,gQ,iY⟩:=ZH3 ia (me.out.step fA) (iS.out.kept fA (ZL _));have vy:=Zab 2 SL.length ZO;have mR:=fA.size;clear ia fA;go_wp2_with (at_builtin;refine Zc _ rfl (.tmp 84) (.tmp 85) _ rfl ws.heap.size 5 i0 _ 1 1 underlying106 hi dd cV dc rfl ZO (S_ ap (Zd SL.length).length cp) (Zd SL.length).length (cells (Zd SL.length)) rfl jz.out wp.heap.size qc SL.length cs (cells SL) rfl iY.out.reads (Z9 _) ZF ZO mR ?_;intro v7 w7 cF db _)
   rw[←Zv]at cF;have iV:K_ w2 w7:=⟨gQ.out.below.grown db gQ.out.le (λg hg=>ZT me.out.le (Zb jz.out hg).1),ZT gQ.out.le db.size⟩;go_ret2
   refine⟨v7,rfl,?_,(cO.out.trans iV cO.out.le).below⟩;have lP:recBytes ⟨4,r,upto,ZCz,events⟩=Zd SL.length++SL:=by
    unfold recBytes;rw[←gz.out,←jV.out]
   rw[lP,ZI];exact Zj cF (ZT cO.out.le me.out.le)
theorem ZsO(h:RecOk f)(dZ:f.kind=5)(hs:EvSl w a n cap f.events):Calls prog 115 #[Zah f (S_ a n cap)] w λr w'=>∃v,r=R_ (.tuple #[v,I_ J_ 0])/\w'.ownsRow w.heap.size 5 1 v (recBytes f).length (cells (recBytes f))/\L_ w w':=by
 have cY:=ZaM h;have cW:=Zbl h;have hlen:=h.len;have fS:=hs.2.2.1;have hr:=h.r;have dJ:=h.upto;have eD:=h.clock;obtain⟨kind,r,upto,clock,events⟩:=f;simp only[]at dZ hlen fS hr dJ hs eD;subst dZ;have H:=ZH h;clear h;have eo:clock=ZCz:=H.out.clock0 ZM;have dt:upto=0:=H.out.upto0 ZM ZM;subst eo dt;obtain⟨LL,gp⟩:∃LL,LL=Z2 ⟨5,r,0,ZCz,events⟩:=⟨_,rfl⟩;rw[←gp]at cY cW;have cR:=(ZKr w).alloc (C_ (Za ⟨5,r,0,ZCz,events⟩ (S_ a n cap)) 150);have cP:=ZBn w 150 (Za ⟨5,r,0,ZCz,events⟩ (S_ a n cap));have eu:=hs.below cR.below;have dD:IntKind.u8.wrap (r:Int)=(r:Int):=by rw[IntKind.wrap_u8];omega
 obtain⟨i0,hi,dd,cV,dc⟩:=info_parts ZaJ;obtain⟨c0,c1,c2,c3,c4,c5,c6,c7,c8⟩:=cP.nine;have cI:=cP.lt;obtain⟨ed,eh,fZ,lY,gA,gz⟩:=ZH6 cR cP eu eD cY gp;clear cR cP eu hs eD cY gp;go_enter func115,ntmps115;go_wp2_with fail;refine(ZfD H.out fZ.out).mono ?_;rintro _ w1 ⟨rfl,cz⟩;have da:=ZH (ed.out.step cz);have dm:=eh.out.ob cz;have fl:=ZH (fZ.out.below cz);clear c0 c1 c2 c3 c4 c5 c6 c7 c8 cI;obtain⟨c0,c1,c2,c3,c4,c5,c6,c7,c8⟩:=dm.nine;have cI:=dm.lt;have dj:=ZH dm;clear dm cz;go_wp2_with fail;refine(ZaR 5 ZO ZO _).mono ?_;rintro _ w2 ⟨rfl,cD⟩;rw[show upK 5=false from rfl,show evK 5=true from rfl,show clK 5=false from rfl];have cO:=ZH (da.out.step cD);have dx:=dj.out.ob cD;have fB:=ZH (fl.out.below cD);clear c0 c1 c2 c3 c4 c5 c6 c7 c8 cI;obtain⟨c0,c1,c2,c3,c4,c5,c6,c7,c8⟩:=dx.nine;have cI:=dx.lt;obtain⟨kB,iF,df⟩:=ZH3 (Zdh w2 5 r) ((ZKr w2).alloc (C_ #[.int .u8 (5:Nat),.int .u8 (r:Int)] 5)) dx;clear dx cD;go_wp2_with fail;refine(Zbg n _ ZO).mono ?_;rintro _ wn ⟨vn,rfl,nE,gW⟩;obtain⟨an,BG,rfl,pR⟩:=Bytes.ae nE;obtain⟨tZ,md,o7⟩:=ZH3 (Ze kB.out gW) (iF.out.step gW) pR;have CI:=Zab 2 n ZO;have rb:=md.out.le;clear nE pR gW c0 c1 c2 c3 c4 c5 c6 c7 c8;have jL:=df.out.ob md.out.below;obtain⟨c0,c1,c2,c3,c4,c5,c6,c7,c8⟩:=jL.nine;have vf:=jL.lt;clear jL
 go_wp2_with (first
  |(at_builtin
    refine Zc _ rfl (.tmp 54) (.tmp 59) _ rfl w2.heap.size 5 i0 _ 1 1 underlying106 hi dd cV dc rfl ZO (S_ (some ⟨w2.heap.size,0,none⟩) 2 2) 2 (cells [5,r]) rfl tZ.out wn.heap.size an (Zd n).length BG (cells (Zd n)) rfl o7.out.reads (Z9 _) ZF ZO rb ?_;intro PO Dm er jO _;obtain⟨Ln,oa⟩:∃Ln,Ln=[5,r]++Zd n:=⟨_,rfl⟩;have uC:2+(Zd n).length=Ln.length:=by rw[oa,ZI];try rfl
    rw[←Zv,←oa,uC]at er;have mf:Hid (K_ w2 Dm):=ZH ⟨md.out.below.grown jO md.out.le (λg hg=>(Zb tZ.out hg).1),ZT md.out.le jO.size⟩;obtain⟨Nj,Nr,rfl,_⟩:=Bytes.ae er;have Cv:Ln.length<=20:=ZO;obtain⟨qy,AY⟩:=ZH2 er oa;clear er oa uC jO c0 c1 c2 c3 c4 c5 c6 c7 c8;have gr:=df.out.ob mf.out.below;obtain⟨c0,c1,c2,c3,c4,c5,c6,c7,c8⟩:=gr.nine;have qZ:=gr.lt
    clear gr))
 clear c0 c1 c2 c3 c4 c5 c6 c7 c8;go_loopw [8,13,14,64] (λv _ _ i wr=>∃q:Nat,q<=n/\i=I_ J_ q/\Hid (wr.ownsRow w2.heap.size 5 1 v (Ln++Zg (events.take q)).length (cells (Ln++Zg (events.take q))))/\Hid (K_ w2 wr)) (λ_ _ _ i _=>n-(intOf i).toNat)
 case atStart=>exact⟨0,ZO,rfl,ZH (by simpa [Zg] using qy.out),mf⟩
 case round =>
  obtain⟨q,hq,rfl,HR,dG⟩:=hrel;obtain⟨av,cv,rfl,_⟩:=Bytes.ae HR.out;have fX:(Zg (events.take q)).length<=60*1000:=by
   have h1:=Zb3 (events.take q) (λe he=>H.out.events e (List.mem_of_mem_take he));have h2:(events.take q).length<=1000:=by rw[ZV];omega
   omega
  obtain⟨M,hM⟩:∃M,M=(Ln++Zg (events.take q)).length:=⟨_,rfl⟩;have uB:M<=70000:=by rw[hM,ZI];omega
  by_cases du:q<n
  ·rw[←hM]at HR ⊢;have HM:=ZH hM;clear hM fX;obtain⟨e,he⟩:∃e,events[q]? = some e:=⟨_,ZX (by rw[fS];exact du)⟩;have ep:=ZH (H.out.events e (ZY he));have iP:=fB.out.below dG.out.below;obtain⟨bk,off,rfl,cW,e0,e1,e2,e3,e4,e5,e6,e7,e8,e9,jj,jI⟩:=iP.at_ he;have hx:=ZBn wr 89 (evArr e);obtain⟨x0,x1,x2,x3,x4,x5,x6,x7,x8,x9,fh,fi⟩:=hx.ag;obtain⟨gc,t6,tN⟩:=ZH3 (ZcM he) (HR.out.alloc (C_ (evArr e) 89)) (dG.out.alloc (C_ (evArr e) 89));have uR:=Zc2 ep.out;clear iP he hx;go_wp2_with fail;refine(Zeg e _ ep.out).mono ?_;rintro _ w3 ⟨v3,rfl,fd,cG⟩;obtain⟨a3,n8,rfl,gO⟩:=Bytes.ae fd;have fk:=ZH (Ze t6.out cG);have dr:=tN.out.step cG;have iB:=dr.le;obtain⟨cU,ic⟩:=ZH2 dr gO;clear fd gO dr cG e0 e1 e2 e3 e4 e5 e6 e7 e8 e9 jj jI x0 x1 x2 x3 x4 x5 x6 x7 x8 x9 fh fi
   go_wp2_with (first
    |(at_builtin
      refine Zc _ rfl (.tmp 75) (.tmp 76) _ rfl w2.heap.size 5 i0 _ 1 1 underlying106 hi dd cV dc rfl ZO (S_ av M cv) M (cells (Ln++Zg (events.take q))) rfl fk.out w3.heap.size a3 (evBytes e).length n8 (cells (evBytes e)) rfl ic.out.reads (Z9 _) ZF ZO iB ?_;intro v4 w4 cJ dL _;rw[←Zv,HM.out,←ZI,List.append_assoc,←gc.out]at cJ;have dw:Hid (K_ w2 w4):=ZH (⟨cU.out.below.grown dL cU.out.le (λg hg=>(Zb fk.out hg).1),ZT cU.out.le dL.size⟩);have dO:=ZH cJ
      clear cJ dL))
   go_roundw
   case rel=>exact⟨q+1,ZO,ZN,dO,dw⟩
   case measure=>simp[intOf];omega
  ·obtain rfl:q=n:=ZO;rw[ZU ZO,show Ln++Zg events=LL by
    rw[gz.out,AY.out];simp[Z2,upK,clK,evK,fS]]at HR ⊢
   have HO:=HR;have HK:=dG;clear hM fX;go_wp2_with fail;obtain⟨af,cf,uE,jl⟩:=Bytes.ae HO.out;injection uE with mv uF mw;subst mv mw;refine(ZcK jl gA.out ZO).mono ?_;rintro _ ws ⟨vs,rfl,i7,jm⟩;obtain⟨qc,cs,rfl,gP⟩:=Bytes.ae i7;obtain⟨me,iS⟩:=ZH2 (HK.out.step jm) gP;obtain⟨SL,iw⟩:∃SL,SL=ZaF LL:=⟨_,rfl⟩;have vF:SL.length<=60104:=by rw[iw,Zb7];omega
   rw[←iw]at iS ⊢;have jV:=ZH iw;clear i7 gP jm jl iw;go_wp2_with fail;refine(Zbg SL.length ws ZO).mono ?_;rintro _ wp ⟨vp,rfl,ia,fA⟩;obtain⟨ap,cp,rfl,_⟩:=Bytes.ae ia;obtain⟨jz,gQ,iY⟩:=ZH3 ia (me.out.step fA) (iS.out.kept fA (ZL _));have vy:=Zab 2 SL.length ZO;have mR:=fA.size;clear ia fA;go_wp2_with (at_builtin;refine Zc _ rfl (.tmp 84) (.tmp 85) _ rfl ws.heap.size 5 i0 _ 1 1 underlying106 hi dd cV dc rfl ZO (S_ ap (Zd SL.length).length cp) (Zd SL.length).length (cells (Zd SL.length)) rfl jz.out wp.heap.size qc SL.length cs (cells SL) rfl iY.out.reads (Z9 _) ZF ZO mR ?_;intro v7 w7 cF db _)
   rw[←Zv]at cF;have iV:K_ w2 w7:=⟨gQ.out.below.grown db gQ.out.le (λg hg=>ZT me.out.le (Zb jz.out hg).1),ZT gQ.out.le db.size⟩;go_ret2
   refine⟨v7,rfl,?_,(cO.out.trans iV cO.out.le).below⟩;have lP:recBytes ⟨5,r,0,ZCz,events⟩=Zd SL.length++SL:=by
    unfold recBytes;rw[←gz.out,←jV.out]
   rw[lP,ZI];exact Zj cF (ZT cO.out.le me.out.le)
theorem ZsK(h:RecOk f)(dZ:f.kind=1)(hs:EvSl w a n cap f.events):Calls prog 115 #[Zah f (S_ a n cap)] w λr w'=>∃v,r=R_ (.tuple #[v,I_ J_ 0])/\w'.ownsRow w.heap.size 5 1 v (recBytes f).length (cells (recBytes f))/\L_ w w':=by
 have cY:=ZaM h;have cW:=Zbl h;have hlen:=h.len;have fS:=hs.2.2.1;have hr:=h.r;have dJ:=h.upto;have eD:=h.clock;obtain⟨kind,r,upto,clock,events⟩:=f;simp only[]at dZ hlen fS hr dJ hs eD;subst dZ;have H:=ZH h;clear h;have eo:clock=ZCz:=H.out.clock0 ZM;have dt:upto=0:=H.out.upto0 ZM ZM;subst eo dt;obtain⟨LL,gp⟩:∃LL,LL=Z2 ⟨1,r,0,ZCz,events⟩:=⟨_,rfl⟩;rw[←gp]at cY cW;have cR:=(ZKr w).alloc (C_ (Za ⟨1,r,0,ZCz,events⟩ (S_ a n cap)) 150);have cP:=ZBn w 150 (Za ⟨1,r,0,ZCz,events⟩ (S_ a n cap));have eu:=hs.below cR.below;have dD:IntKind.u8.wrap (r:Int)=(r:Int):=by rw[IntKind.wrap_u8];omega
 obtain⟨i0,hi,dd,cV,dc⟩:=info_parts ZaJ;obtain⟨c0,c1,c2,c3,c4,c5,c6,c7,c8⟩:=cP.nine;have cI:=cP.lt;obtain⟨ed,eh,fZ,lY,gA,gz⟩:=ZH6 cR cP eu eD cY gp;clear cR cP eu hs eD cY gp;go_enter func115,ntmps115;go_wp2_with fail;refine(ZfD H.out fZ.out).mono ?_;rintro _ w1 ⟨rfl,cz⟩;have da:=ZH (ed.out.step cz);have dm:=eh.out.ob cz;have fl:=ZH (fZ.out.below cz);clear c0 c1 c2 c3 c4 c5 c6 c7 c8 cI;obtain⟨c0,c1,c2,c3,c4,c5,c6,c7,c8⟩:=dm.nine;have cI:=dm.lt;have dj:=ZH dm;clear dm cz;go_wp2_with fail;refine(ZaR 1 ZO ZO _).mono ?_;rintro _ w2 ⟨rfl,cD⟩;rw[show upK 1=false from rfl,show evK 1=true from rfl,show clK 1=false from rfl];have cO:=ZH (da.out.step cD);have dx:=dj.out.ob cD;have fB:=ZH (fl.out.below cD);clear c0 c1 c2 c3 c4 c5 c6 c7 c8 cI;obtain⟨c0,c1,c2,c3,c4,c5,c6,c7,c8⟩:=dx.nine;have cI:=dx.lt;obtain⟨kB,iF,df⟩:=ZH3 (Zdh w2 1 r) ((ZKr w2).alloc (C_ #[.int .u8 (1:Nat),.int .u8 (r:Int)] 5)) dx;clear dx cD;go_wp2_with fail;refine(Zbg n _ ZO).mono ?_;rintro _ wn ⟨vn,rfl,nE,gW⟩;obtain⟨an,BG,rfl,pR⟩:=Bytes.ae nE;obtain⟨tZ,md,o7⟩:=ZH3 (Ze kB.out gW) (iF.out.step gW) pR;have CI:=Zab 2 n ZO;have rb:=md.out.le;clear nE pR gW c0 c1 c2 c3 c4 c5 c6 c7 c8;have jL:=df.out.ob md.out.below;obtain⟨c0,c1,c2,c3,c4,c5,c6,c7,c8⟩:=jL.nine;have vf:=jL.lt;clear jL
 go_wp2_with (first
  |(at_builtin
    refine Zc _ rfl (.tmp 54) (.tmp 59) _ rfl w2.heap.size 5 i0 _ 1 1 underlying106 hi dd cV dc rfl ZO (S_ (some ⟨w2.heap.size,0,none⟩) 2 2) 2 (cells [1,r]) rfl tZ.out wn.heap.size an (Zd n).length BG (cells (Zd n)) rfl o7.out.reads (Z9 _) ZF ZO rb ?_;intro PO Dm er jO _;obtain⟨Ln,oa⟩:∃Ln,Ln=[1,r]++Zd n:=⟨_,rfl⟩;have uC:2+(Zd n).length=Ln.length:=by rw[oa,ZI];try rfl
    rw[←Zv,←oa,uC]at er;have mf:Hid (K_ w2 Dm):=ZH ⟨md.out.below.grown jO md.out.le (λg hg=>(Zb tZ.out hg).1),ZT md.out.le jO.size⟩;obtain⟨Nj,Nr,rfl,_⟩:=Bytes.ae er;have Cv:Ln.length<=20:=ZO;obtain⟨qy,AY⟩:=ZH2 er oa;clear er oa uC jO c0 c1 c2 c3 c4 c5 c6 c7 c8;have gr:=df.out.ob mf.out.below;obtain⟨c0,c1,c2,c3,c4,c5,c6,c7,c8⟩:=gr.nine;have qZ:=gr.lt
    clear gr))
 clear c0 c1 c2 c3 c4 c5 c6 c7 c8;go_loopw [8,13,14,64] (λv _ _ i wr=>∃q:Nat,q<=n/\i=I_ J_ q/\Hid (wr.ownsRow w2.heap.size 5 1 v (Ln++Zg (events.take q)).length (cells (Ln++Zg (events.take q))))/\Hid (K_ w2 wr)) (λ_ _ _ i _=>n-(intOf i).toNat)
 case atStart=>exact⟨0,ZO,rfl,ZH (by simpa [Zg] using qy.out),mf⟩
 case round =>
  obtain⟨q,hq,rfl,HR,dG⟩:=hrel;obtain⟨av,cv,rfl,_⟩:=Bytes.ae HR.out;have fX:(Zg (events.take q)).length<=60*1000:=by
   have h1:=Zb3 (events.take q) (λe he=>H.out.events e (List.mem_of_mem_take he));have h2:(events.take q).length<=1000:=by rw[ZV];omega
   omega
  obtain⟨M,hM⟩:∃M,M=(Ln++Zg (events.take q)).length:=⟨_,rfl⟩;have uB:M<=70000:=by rw[hM,ZI];omega
  by_cases du:q<n
  ·rw[←hM]at HR ⊢;have HM:=ZH hM;clear hM fX;obtain⟨e,he⟩:∃e,events[q]? = some e:=⟨_,ZX (by rw[fS];exact du)⟩;have ep:=ZH (H.out.events e (ZY he));have iP:=fB.out.below dG.out.below;obtain⟨bk,off,rfl,cW,e0,e1,e2,e3,e4,e5,e6,e7,e8,e9,jj,jI⟩:=iP.at_ he;have hx:=ZBn wr 89 (evArr e);obtain⟨x0,x1,x2,x3,x4,x5,x6,x7,x8,x9,fh,fi⟩:=hx.ag;obtain⟨gc,t6,tN⟩:=ZH3 (ZcM he) (HR.out.alloc (C_ (evArr e) 89)) (dG.out.alloc (C_ (evArr e) 89));have uR:=Zc2 ep.out;clear iP he hx;go_wp2_with fail;refine(Zeg e _ ep.out).mono ?_;rintro _ w3 ⟨v3,rfl,fd,cG⟩;obtain⟨a3,n8,rfl,gO⟩:=Bytes.ae fd;have fk:=ZH (Ze t6.out cG);have dr:=tN.out.step cG;have iB:=dr.le;obtain⟨cU,ic⟩:=ZH2 dr gO;clear fd gO dr cG e0 e1 e2 e3 e4 e5 e6 e7 e8 e9 jj jI x0 x1 x2 x3 x4 x5 x6 x7 x8 x9 fh fi
   go_wp2_with (first
    |(at_builtin
      refine Zc _ rfl (.tmp 75) (.tmp 76) _ rfl w2.heap.size 5 i0 _ 1 1 underlying106 hi dd cV dc rfl ZO (S_ av M cv) M (cells (Ln++Zg (events.take q))) rfl fk.out w3.heap.size a3 (evBytes e).length n8 (cells (evBytes e)) rfl ic.out.reads (Z9 _) ZF ZO iB ?_;intro v4 w4 cJ dL _;rw[←Zv,HM.out,←ZI,List.append_assoc,←gc.out]at cJ;have dw:Hid (K_ w2 w4):=ZH (⟨cU.out.below.grown dL cU.out.le (λg hg=>(Zb fk.out hg).1),ZT cU.out.le dL.size⟩);have dO:=ZH cJ
      clear cJ dL))
   go_roundw
   case rel=>exact⟨q+1,ZO,ZN,dO,dw⟩
   case measure=>simp[intOf];omega
  ·obtain rfl:q=n:=ZO;rw[ZU ZO,show Ln++Zg events=LL by
    rw[gz.out,AY.out];simp[Z2,upK,clK,evK,fS]]at HR ⊢
   have HO:=HR;have HK:=dG;clear hM fX;go_wp2_with fail;obtain⟨af,cf,uE,jl⟩:=Bytes.ae HO.out;injection uE with mv uF mw;subst mv mw;refine(ZcK jl gA.out ZO).mono ?_;rintro _ ws ⟨vs,rfl,i7,jm⟩;obtain⟨qc,cs,rfl,gP⟩:=Bytes.ae i7;obtain⟨me,iS⟩:=ZH2 (HK.out.step jm) gP;obtain⟨SL,iw⟩:∃SL,SL=ZaF LL:=⟨_,rfl⟩;have vF:SL.length<=60104:=by rw[iw,Zb7];omega
   rw[←iw]at iS ⊢;have jV:=ZH iw;clear i7 gP jm jl iw;go_wp2_with fail;refine(Zbg SL.length ws ZO).mono ?_;rintro _ wp ⟨vp,rfl,ia,fA⟩;obtain⟨ap,cp,rfl,_⟩:=Bytes.ae ia;obtain⟨jz,gQ,iY⟩:=ZH3 ia (me.out.step fA) (iS.out.kept fA (ZL _));have vy:=Zab 2 SL.length ZO;have mR:=fA.size;clear ia fA;go_wp2_with (at_builtin;refine Zc _ rfl (.tmp 84) (.tmp 85) _ rfl ws.heap.size 5 i0 _ 1 1 underlying106 hi dd cV dc rfl ZO (S_ ap (Zd SL.length).length cp) (Zd SL.length).length (cells (Zd SL.length)) rfl jz.out wp.heap.size qc SL.length cs (cells SL) rfl iY.out.reads (Z9 _) ZF ZO mR ?_;intro v7 w7 cF db _)
   rw[←Zv]at cF;have iV:K_ w2 w7:=⟨gQ.out.below.grown db gQ.out.le (λg hg=>ZT me.out.le (Zb jz.out hg).1),ZT gQ.out.le db.size⟩;go_ret2
   refine⟨v7,rfl,?_,(cO.out.trans iV cO.out.le).below⟩;have lP:recBytes ⟨1,r,0,ZCz,events⟩=Zd SL.length++SL:=by
    unfold recBytes;rw[←gz.out,←jV.out]
   rw[lP,ZI];exact Zj cF (ZT cO.out.le me.out.le)
theorem ZsL(h:RecOk f)(dZ:f.kind=2)(hs:EvSl w a n cap f.events):Calls prog 115 #[Zah f (S_ a n cap)] w λr w'=>∃v,r=R_ (.tuple #[v,I_ J_ 0])/\w'.ownsRow w.heap.size 5 1 v (recBytes f).length (cells (recBytes f))/\L_ w w':=by
 have cY:=ZaM h;have cW:=Zbl h;have hlen:=h.len;have fS:=hs.2.2.1;have hr:=h.r;have dJ:=h.upto;have eD:=h.clock;obtain⟨kind,r,upto,clock,events⟩:=f;simp only[]at dZ hlen fS hr dJ hs eD;subst dZ;have H:=ZH h;clear h;have eo:clock=ZCz:=H.out.clock0 ZM;have dt:upto=0:=H.out.upto0 ZM ZM;subst eo dt;obtain⟨LL,gp⟩:∃LL,LL=Z2 ⟨2,r,0,ZCz,events⟩:=⟨_,rfl⟩;rw[←gp]at cY cW;have cR:=(ZKr w).alloc (C_ (Za ⟨2,r,0,ZCz,events⟩ (S_ a n cap)) 150);have cP:=ZBn w 150 (Za ⟨2,r,0,ZCz,events⟩ (S_ a n cap));have eu:=hs.below cR.below;have dD:IntKind.u8.wrap (r:Int)=(r:Int):=by rw[IntKind.wrap_u8];omega
 obtain⟨i0,hi,dd,cV,dc⟩:=info_parts ZaJ;obtain⟨c0,c1,c2,c3,c4,c5,c6,c7,c8⟩:=cP.nine;have cI:=cP.lt;obtain⟨ed,eh,fZ,lY,gA,gz⟩:=ZH6 cR cP eu eD cY gp;clear cR cP eu hs eD cY gp;go_enter func115,ntmps115;go_wp2_with fail;refine(ZfD H.out fZ.out).mono ?_;rintro _ w1 ⟨rfl,cz⟩;have da:=ZH (ed.out.step cz);have dm:=eh.out.ob cz;have fl:=ZH (fZ.out.below cz);clear c0 c1 c2 c3 c4 c5 c6 c7 c8 cI;obtain⟨c0,c1,c2,c3,c4,c5,c6,c7,c8⟩:=dm.nine;have cI:=dm.lt;have dj:=ZH dm;clear dm cz;go_wp2_with fail;refine(ZaR 2 ZO ZO _).mono ?_;rintro _ w2 ⟨rfl,cD⟩;rw[show upK 2=false from rfl,show evK 2=true from rfl,show clK 2=false from rfl];have cO:=ZH (da.out.step cD);have dx:=dj.out.ob cD;have fB:=ZH (fl.out.below cD);clear c0 c1 c2 c3 c4 c5 c6 c7 c8 cI;obtain⟨c0,c1,c2,c3,c4,c5,c6,c7,c8⟩:=dx.nine;have cI:=dx.lt;obtain⟨kB,iF,df⟩:=ZH3 (Zdh w2 2 r) ((ZKr w2).alloc (C_ #[.int .u8 (2:Nat),.int .u8 (r:Int)] 5)) dx;clear dx cD;go_wp2_with fail;refine(Zbg n _ ZO).mono ?_;rintro _ wn ⟨vn,rfl,nE,gW⟩;obtain⟨an,BG,rfl,pR⟩:=Bytes.ae nE;obtain⟨tZ,md,o7⟩:=ZH3 (Ze kB.out gW) (iF.out.step gW) pR;have CI:=Zab 2 n ZO;have rb:=md.out.le;clear nE pR gW c0 c1 c2 c3 c4 c5 c6 c7 c8;have jL:=df.out.ob md.out.below;obtain⟨c0,c1,c2,c3,c4,c5,c6,c7,c8⟩:=jL.nine;have vf:=jL.lt;clear jL
 go_wp2_with (first
  |(at_builtin
    refine Zc _ rfl (.tmp 54) (.tmp 59) _ rfl w2.heap.size 5 i0 _ 1 1 underlying106 hi dd cV dc rfl ZO (S_ (some ⟨w2.heap.size,0,none⟩) 2 2) 2 (cells [2,r]) rfl tZ.out wn.heap.size an (Zd n).length BG (cells (Zd n)) rfl o7.out.reads (Z9 _) ZF ZO rb ?_;intro PO Dm er jO _;obtain⟨Ln,oa⟩:∃Ln,Ln=[2,r]++Zd n:=⟨_,rfl⟩;have uC:2+(Zd n).length=Ln.length:=by rw[oa,ZI];try rfl
    rw[←Zv,←oa,uC]at er;have mf:Hid (K_ w2 Dm):=ZH ⟨md.out.below.grown jO md.out.le (λg hg=>(Zb tZ.out hg).1),ZT md.out.le jO.size⟩;obtain⟨Nj,Nr,rfl,_⟩:=Bytes.ae er;have Cv:Ln.length<=20:=ZO;obtain⟨qy,AY⟩:=ZH2 er oa;clear er oa uC jO c0 c1 c2 c3 c4 c5 c6 c7 c8;have gr:=df.out.ob mf.out.below;obtain⟨c0,c1,c2,c3,c4,c5,c6,c7,c8⟩:=gr.nine;have qZ:=gr.lt
    clear gr))
 clear c0 c1 c2 c3 c4 c5 c6 c7 c8;go_loopw [8,13,14,64] (λv _ _ i wr=>∃q:Nat,q<=n/\i=I_ J_ q/\Hid (wr.ownsRow w2.heap.size 5 1 v (Ln++Zg (events.take q)).length (cells (Ln++Zg (events.take q))))/\Hid (K_ w2 wr)) (λ_ _ _ i _=>n-(intOf i).toNat)
 case atStart=>exact⟨0,ZO,rfl,ZH (by simpa [Zg] using qy.out),mf⟩
 case round =>
  obtain⟨q,hq,rfl,HR,dG⟩:=hrel;obtain⟨av,cv,rfl,_⟩:=Bytes.ae HR.out;have fX:(Zg (events.take q)).length<=60*1000:=by
   have h1:=Zb3 (events.take q) (λe he=>H.out.events e (List.mem_of_mem_take he));have h2:(events.take q).length<=1000:=by rw[ZV];omega
   omega
  obtain⟨M,hM⟩:∃M,M=(Ln++Zg (events.take q)).length:=⟨_,rfl⟩;have uB:M<=70000:=by rw[hM,ZI];omega
  by_cases du:q<n
  ·rw[←hM]at HR ⊢;have HM:=ZH hM;clear hM fX;obtain⟨e,he⟩:∃e,events[q]? = some e:=⟨_,ZX (by rw[fS];exact du)⟩;have ep:=ZH (H.out.events e (ZY he));have iP:=fB.out.below dG.out.below;obtain⟨bk,off,rfl,cW,e0,e1,e2,e3,e4,e5,e6,e7,e8,e9,jj,jI⟩:=iP.at_ he;have hx:=ZBn wr 89 (evArr e);obtain⟨x0,x1,x2,x3,x4,x5,x6,x7,x8,x9,fh,fi⟩:=hx.ag;obtain⟨gc,t6,tN⟩:=ZH3 (ZcM he) (HR.out.alloc (C_ (evArr e) 89)) (dG.out.alloc (C_ (evArr e) 89));have uR:=Zc2 ep.out;clear iP he hx;go_wp2_with fail;refine(Zeg e _ ep.out).mono ?_;rintro _ w3 ⟨v3,rfl,fd,cG⟩;obtain⟨a3,n8,rfl,gO⟩:=Bytes.ae fd;have fk:=ZH (Ze t6.out cG);have dr:=tN.out.step cG;have iB:=dr.le;obtain⟨cU,ic⟩:=ZH2 dr gO;clear fd gO dr cG e0 e1 e2 e3 e4 e5 e6 e7 e8 e9 jj jI x0 x1 x2 x3 x4 x5 x6 x7 x8 x9 fh fi
   go_wp2_with (first
    |(at_builtin
      refine Zc _ rfl (.tmp 75) (.tmp 76) _ rfl w2.heap.size 5 i0 _ 1 1 underlying106 hi dd cV dc rfl ZO (S_ av M cv) M (cells (Ln++Zg (events.take q))) rfl fk.out w3.heap.size a3 (evBytes e).length n8 (cells (evBytes e)) rfl ic.out.reads (Z9 _) ZF ZO iB ?_;intro v4 w4 cJ dL _;rw[←Zv,HM.out,←ZI,List.append_assoc,←gc.out]at cJ;have dw:Hid (K_ w2 w4):=ZH (⟨cU.out.below.grown dL cU.out.le (λg hg=>(Zb fk.out hg).1),ZT cU.out.le dL.size⟩);have dO:=ZH cJ
      clear cJ dL))
   go_roundw
   case rel=>exact⟨q+1,ZO,ZN,dO,dw⟩
   case measure=>simp[intOf];omega
  ·obtain rfl:q=n:=ZO;rw[ZU ZO,show Ln++Zg events=LL by
    rw[gz.out,AY.out];simp[Z2,upK,clK,evK,fS]]at HR ⊢
   have HO:=HR;have HK:=dG;clear hM fX;go_wp2_with fail;obtain⟨af,cf,uE,jl⟩:=Bytes.ae HO.out;injection uE with mv uF mw;subst mv mw;refine(ZcK jl gA.out ZO).mono ?_;rintro _ ws ⟨vs,rfl,i7,jm⟩;obtain⟨qc,cs,rfl,gP⟩:=Bytes.ae i7;obtain⟨me,iS⟩:=ZH2 (HK.out.step jm) gP;obtain⟨SL,iw⟩:∃SL,SL=ZaF LL:=⟨_,rfl⟩;have vF:SL.length<=60104:=by rw[iw,Zb7];omega
   rw[←iw]at iS ⊢;have jV:=ZH iw;clear i7 gP jm jl iw;go_wp2_with fail;refine(Zbg SL.length ws ZO).mono ?_;rintro _ wp ⟨vp,rfl,ia,fA⟩;obtain⟨ap,cp,rfl,_⟩:=Bytes.ae ia;obtain⟨jz,gQ,iY⟩:=ZH3 ia (me.out.step fA) (iS.out.kept fA (ZL _));have vy:=Zab 2 SL.length ZO;have mR:=fA.size;clear ia fA;go_wp2_with (at_builtin;refine Zc _ rfl (.tmp 84) (.tmp 85) _ rfl ws.heap.size 5 i0 _ 1 1 underlying106 hi dd cV dc rfl ZO (S_ ap (Zd SL.length).length cp) (Zd SL.length).length (cells (Zd SL.length)) rfl jz.out wp.heap.size qc SL.length cs (cells SL) rfl iY.out.reads (Z9 _) ZF ZO mR ?_;intro v7 w7 cF db _)
   rw[←Zv]at cF;have iV:K_ w2 w7:=⟨gQ.out.below.grown db gQ.out.le (λg hg=>ZT me.out.le (Zb jz.out hg).1),ZT gQ.out.le db.size⟩;go_ret2
   refine⟨v7,rfl,?_,(cO.out.trans iV cO.out.le).below⟩;have lP:recBytes ⟨2,r,0,ZCz,events⟩=Zd SL.length++SL:=by
    unfold recBytes;rw[←gz.out,←jV.out]
   rw[lP,ZI];exact Zj cF (ZT cO.out.le me.out.le)
theorem ZsM(h:RecOk f)(dZ:f.kind=3)(hs:EvSl w a n cap f.events):Calls prog 115 #[Zah f (S_ a n cap)] w λr w'=>∃v,r=R_ (.tuple #[v,I_ J_ 0])/\w'.ownsRow w.heap.size 5 1 v (recBytes f).length (cells (recBytes f))/\L_ w w':=by
 have cY:=ZaM h;have cW:=Zbl h;have hlen:=h.len;have fS:=hs.2.2.1;have hr:=h.r;have dJ:=h.upto;have eD:=h.clock;obtain⟨kind,r,upto,clock,events⟩:=f;simp only[]at dZ hlen fS hr dJ hs eD;subst dZ;have H:=ZH h;clear h;have eo:clock=ZCz:=H.out.clock0 ZM;have li:events=[]:=H.out.events0 ZM;subst eo li;obtain rfl:n=0:=fS.symm;obtain⟨LL,gp⟩:∃LL,LL=Z2 ⟨3,r,upto,ZCz,[]⟩:=⟨_,rfl⟩;rw[←gp]at cY cW;have cR:=(ZKr w).alloc (C_ (Za ⟨3,r,upto,ZCz,[]⟩ (S_ a 0 cap)) 150);have cP:=ZBn w 150 (Za ⟨3,r,upto,ZCz,[]⟩ (S_ a 0 cap));have eu:=hs.below cR.below;have dD:IntKind.u8.wrap (r:Int)=(r:Int):=by rw[IntKind.wrap_u8];omega
 obtain⟨i0,hi,dd,cV,dc⟩:=info_parts ZaJ;obtain⟨c0,c1,c2,c3,c4,c5,c6,c7,c8⟩:=cP.nine;have cI:=cP.lt;obtain⟨ed,eh,fZ,lY,gA,gz⟩:=ZH6 cR cP eu eD cY gp;clear cR cP eu hs eD cY gp;go_enter func115,ntmps115;go_wp2_with fail;refine(ZfD H.out fZ.out).mono ?_;rintro _ w1 ⟨rfl,cz⟩;have da:=ZH (ed.out.step cz);have dm:=eh.out.ob cz;have fl:=ZH (fZ.out.below cz);clear c0 c1 c2 c3 c4 c5 c6 c7 c8 cI;obtain⟨c0,c1,c2,c3,c4,c5,c6,c7,c8⟩:=dm.nine;have cI:=dm.lt;have dj:=ZH dm;clear dm cz;go_wp2_with fail;refine(ZaR 3 ZO ZO _).mono ?_;rintro _ w2 ⟨rfl,cD⟩;rw[show upK 3=true from rfl,show evK 3=false from rfl,show clK 3=false from rfl];have cO:=ZH (da.out.step cD);have dx:=dj.out.ob cD;have fB:=ZH (fl.out.below cD);clear c0 c1 c2 c3 c4 c5 c6 c7 c8 cI;obtain⟨c0,c1,c2,c3,c4,c5,c6,c7,c8⟩:=dx.nine;have cI:=dx.lt;obtain⟨kB,iF,df⟩:=ZH3 (Zdh w2 3 r) ((ZKr w2).alloc (C_ #[.int .u8 (3:Nat),.int .u8 (r:Int)] 5)) dx;clear dx cD;go_wp2_with fail;refine(Zbg upto _ ZO).mono ?_;rintro _ wu ⟨vu,rfl,CJ,BU⟩;obtain⟨au,Nq,rfl,wB⟩:=Bytes.ae CJ;obtain⟨E9,tM,Mt⟩:=ZH3 (Ze kB.out BU) (iF.out.step BU) wB;have OY:=Zab 2 upto ZO;have C0:=tM.out.le;clear CJ wB BU c0 c1 c2 c3 c4 c5 c6 c7 c8;have qO:=df.out.ob tM.out.below;obtain⟨c0,c1,c2,c3,c4,c5,c6,c7,c8⟩:=qO.nine;have Hc:=qO.lt;clear qO
 go_wp2_with (first
  |(at_builtin
    refine Zc _ rfl (.tmp 35) (.tmp 39) _ rfl w2.heap.size 5 i0 _ 1 1 underlying106 hi dd cV dc rfl ZO (S_ (some ⟨w2.heap.size,0,none⟩) 2 2) 2 (cells [3,r]) rfl E9.out wu.heap.size au (Zd upto).length Nq (cells (Zd upto)) rfl Mt.out.reads (Z9 _) ZF ZO C0 ?_;intro WA PR iA qS _;obtain⟨Lu,xL⟩:∃Lu,Lu=[3,r]++Zd upto:=⟨_,rfl⟩;have F3:2+(Zd upto).length=Lu.length:=by rw[xL,ZI];try rfl
    rw[←Zv,←xL,F3]at iA;have tO:Hid (K_ w2 PR):=ZH ⟨tM.out.below.grown qS tM.out.le (λg hg=>(Zb E9.out hg).1),ZT tM.out.le qS.size⟩;obtain⟨QE,QL,rfl,_⟩:=Bytes.ae iA;have OE:Lu.length<=10:=ZO;obtain⟨xo,LT⟩:=ZH2 iA xL;clear iA xL F3 qS c0 c1 c2 c3 c4 c5 c6 c7 c8;have mA:=df.out.ob tO.out.below;obtain⟨c0,c1,c2,c3,c4,c5,c6,c7,c8⟩:=mA.nine;have CB:=mA.lt
    clear mA))
 rw[show Lu=LL by rw[LT.out,gz.out];simp[Z2,upK,clK,evK]]at xo ⊢;clear c0 c1 c2 c3 c4 c5 c6 c7 c8;obtain⟨af,cf,uE,jl⟩:=Bytes.ae xo.out;injection uE with mv uF mw;subst mv mw;refine(ZcK jl gA.out ZO).mono ?_;rintro _ ws ⟨vs,rfl,i7,jm⟩;obtain⟨qc,cs,rfl,gP⟩:=Bytes.ae i7;obtain⟨me,iS⟩:=ZH2 (tO.out.step jm) gP;obtain⟨SL,iw⟩:∃SL,SL=ZaF LL:=⟨_,rfl⟩;have vF:SL.length<=60104:=by rw[iw,Zb7];omega
 rw[←iw]at iS ⊢;have jV:=ZH iw;clear i7 gP jm jl iw;go_wp2_with fail;refine(Zbg SL.length ws ZO).mono ?_;rintro _ wp ⟨vp,rfl,ia,fA⟩;obtain⟨ap,cp,rfl,_⟩:=Bytes.ae ia;obtain⟨jz,gQ,iY⟩:=ZH3 ia (me.out.step fA) (iS.out.kept fA (ZL _));have vy:=Zab 2 SL.length ZO;have mR:=fA.size;clear ia fA;go_wp2_with (at_builtin;refine Zc _ rfl (.tmp 84) (.tmp 85) _ rfl ws.heap.size 5 i0 _ 1 1 underlying106 hi dd cV dc rfl ZO (S_ ap (Zd SL.length).length cp) (Zd SL.length).length (cells (Zd SL.length)) rfl jz.out wp.heap.size qc SL.length cs (cells SL) rfl iY.out.reads (Z9 _) ZF ZO mR ?_;intro v7 w7 cF db _)
 rw[←Zv]at cF;have iV:K_ w2 w7:=⟨gQ.out.below.grown db gQ.out.le (λg hg=>ZT me.out.le (Zb jz.out hg).1),ZT gQ.out.le db.size⟩;go_ret2
 refine⟨v7,rfl,?_,(cO.out.trans iV cO.out.le).below⟩;have lP:recBytes ⟨3,r,upto,ZCz,[]⟩=Zd SL.length++SL:=by
  unfold recBytes;rw[←gz.out,←jV.out]
 rw[lP,ZI];exact Zj cF (ZT cO.out.le me.out.le)
theorem ZsP(h:RecOk f)(dZ:f.kind=6)(hs:EvSl w a n cap f.events):Calls prog 115 #[Zah f (S_ a n cap)] w λr w'=>∃v,r=R_ (.tuple #[v,I_ J_ 0])/\w'.ownsRow w.heap.size 5 1 v (recBytes f).length (cells (recBytes f))/\L_ w w':=by
 have cY:=ZaM h;have cW:=Zbl h;have hlen:=h.len;have fS:=hs.2.2.1;have hr:=h.r;have dJ:=h.upto;have eD:=h.clock;obtain⟨kind,r,upto,clock,events⟩:=f;simp only[]at dZ hlen fS hr dJ hs eD;subst dZ;have H:=ZH h;clear h;have dt:upto=0:=H.out.upto0 ZM ZM;have li:events=[]:=H.out.events0 ZM;subst dt li;obtain rfl:n=0:=fS.symm;obtain⟨LL,gp⟩:∃LL,LL=Z2 ⟨6,r,0,clock,[]⟩:=⟨_,rfl⟩;rw[←gp]at cY cW;have cR:=(ZKr w).alloc (C_ (Za ⟨6,r,0,clock,[]⟩ (S_ a 0 cap)) 150);have cP:=ZBn w 150 (Za ⟨6,r,0,clock,[]⟩ (S_ a 0 cap));have eu:=hs.below cR.below;have dD:IntKind.u8.wrap (r:Int)=(r:Int):=by rw[IntKind.wrap_u8];omega
 obtain⟨i0,hi,dd,cV,dc⟩:=info_parts ZaJ;obtain⟨c0,c1,c2,c3,c4,c5,c6,c7,c8⟩:=cP.nine;have cI:=cP.lt;obtain⟨ed,eh,fZ,lY,gA,gz⟩:=ZH6 cR cP eu eD cY gp;clear cR cP eu hs eD cY gp;go_enter func115,ntmps115;go_wp2_with fail;refine(ZfD H.out fZ.out).mono ?_;rintro _ w1 ⟨rfl,cz⟩;have da:=ZH (ed.out.step cz);have dm:=eh.out.ob cz;have fl:=ZH (fZ.out.below cz);clear c0 c1 c2 c3 c4 c5 c6 c7 c8 cI;obtain⟨c0,c1,c2,c3,c4,c5,c6,c7,c8⟩:=dm.nine;have cI:=dm.lt;have dj:=ZH dm;clear dm cz;go_wp2_with fail;refine(ZaR 6 ZO ZO _).mono ?_;rintro _ w2 ⟨rfl,cD⟩;rw[show upK 6=false from rfl,show evK 6=false from rfl,show clK 6=true from rfl];have cO:=ZH (da.out.step cD);have dx:=dj.out.ob cD;have fB:=ZH (fl.out.below cD);clear c0 c1 c2 c3 c4 c5 c6 c7 c8 cI;obtain⟨c0,c1,c2,c3,c4,c5,c6,c7,c8⟩:=dx.nine;have cI:=dx.lt;obtain⟨kB,iF,df⟩:=ZH3 (Zdh w2 6 r) ((ZKr w2).alloc (C_ #[.int .u8 (6:Nat),.int .u8 (r:Int)] 5)) dx;clear dx cD;go_wp2_with fail;clear c0 c1 c2 c3 c4 c5 c6 c7 c8 cI;go_loopw [8,10,44] (λv _ i wr=>∃k:Nat,k<=5/\i=I_ J_ k/\Hid (wr.ownsRow w2.heap.size 5 1 v ([6,r]++Zz clock k).length (cells ([6,r]++Zz clock k)))/\Hid (K_ w2 wr)) (λ_ _ i _=>5-(intOf i).toNat)
 case atStart=>exact⟨0,ZO,rfl,ZH (by simpa [Zz] using kB.out),iF⟩
 case round =>
  obtain⟨k,hk,rfl,HR,dG⟩:=hrel;obtain⟨av,cv,rfl,_⟩:=Bytes.ae HR.out;have fg:=Zee lY.out k;by_cases eM:k<5
  ·have kn:(k:Int)<5:=ZO;have kO:=λw=>Zao clock k eM w
   have eD:=lY.out k;obtain⟨M,hM⟩:∃M,M=([6,r]++Zz clock k).length:=⟨_,rfl⟩;have uB:M<=100:=by rw[hM];simp;omega
   rw[←hM]at HR ⊢;have HM:=ZH hM;clear hM fg;go_wp2_with fail;refine(Zbg (clock.get k) wr ZO).mono ?_;rintro _ w3 ⟨v3,rfl,fd,cG⟩;obtain⟨a3,n8,rfl,gO⟩:=Bytes.ae fd;have i4:=Ze HR.out cG;have dr:=dG.out.step cG;have vx:=Zab 2 (clock.get k) ZO;have iB:=dr.le;obtain⟨fk,cU,ic⟩:=ZH3 i4 dr gO;clear fd gO i4 dr cG
   go_wp2_with (first
    |(at_builtin
      refine Zc _ rfl (.tmp 47) (.tmp 50) _ rfl w2.heap.size 5 i0 _ 1 1 underlying106 hi dd cV dc rfl ZO (S_ av M cv) M (cells ([6,r]++Zz clock k)) rfl fk.out w3.heap.size a3 (Zd (clock.get k)).length n8 (cells (Zd (clock.get k))) rfl ic.out.reads (Z9 _) ZF ZO iB ?_;intro v4 w4 cJ dL _;rw[←Zv,HM.out,←ZI,List.append_assoc,show Zz clock k++Zd (clock.get k)=Zz clock (k+1) from rfl]at cJ;have dw:Hid (K_ w2 w4):=ZH (⟨cU.out.below.grown dL cU.out.le (λg hg=>(Zb fk.out hg).1),ZT cU.out.le dL.size⟩);have dO:=ZH cJ
      clear cJ dL))
   go_roundw
   case rel=>exact⟨k+1,ZO,ZN,dO,dw⟩
   case measure=>simp[intOf];omega
  ·obtain rfl:k=5:=ZO;rw[show [6,r]++Zz clock 5=LL by rw[gz.out];simp[Z2,upK,clK,evK]]at HR ⊢;have HO:=HR;have HK:=dG;go_wp2_with fail;obtain⟨af,cf,uE,jl⟩:=Bytes.ae HO.out;injection uE with mv uF mw;subst mv mw;refine(ZcK jl gA.out ZO).mono ?_;rintro _ ws ⟨vs,rfl,i7,jm⟩;obtain⟨qc,cs,rfl,gP⟩:=Bytes.ae i7;obtain⟨me,iS⟩:=ZH2 (HK.out.step jm) gP;obtain⟨SL,iw⟩:∃SL,SL=ZaF LL:=⟨_,rfl⟩;have vF:SL.length<=60104:=by rw[iw,Zb7];omega
   rw[←iw]at iS ⊢;have jV:=ZH iw;clear i7 gP jm jl iw;go_wp2_with fail;refine(Zbg SL.length ws ZO).mono ?_;rintro _ wp ⟨vp,rfl,ia,fA⟩;obtain⟨ap,cp,rfl,_⟩:=Bytes.ae ia;obtain⟨jz,gQ,iY⟩:=ZH3 ia (me.out.step fA) (iS.out.kept fA (ZL _));have vy:=Zab 2 SL.length ZO;have mR:=fA.size;clear ia fA;go_wp2_with (at_builtin;refine Zc _ rfl (.tmp 84) (.tmp 85) _ rfl ws.heap.size 5 i0 _ 1 1 underlying106 hi dd cV dc rfl ZO (S_ ap (Zd SL.length).length cp) (Zd SL.length).length (cells (Zd SL.length)) rfl jz.out wp.heap.size qc SL.length cs (cells SL) rfl iY.out.reads (Z9 _) ZF ZO mR ?_;intro v7 w7 cF db _)
   rw[←Zv]at cF;have iV:K_ w2 w7:=⟨gQ.out.below.grown db gQ.out.le (λg hg=>ZT me.out.le (Zb jz.out hg).1),ZT gQ.out.le db.size⟩;go_ret2
   refine⟨v7,rfl,?_,(cO.out.trans iV cO.out.le).below⟩;have lP:recBytes ⟨6,r,0,clock,[]⟩=Zd SL.length++SL:=by
    unfold recBytes;rw[←gz.out,←jV.out]
   rw[lP,ZI];exact Zj cF (ZT cO.out.le me.out.le)
end Go.Proofs.YtjkfognelhiepaaGreat
