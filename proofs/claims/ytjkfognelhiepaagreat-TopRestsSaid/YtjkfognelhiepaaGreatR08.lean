import Derived.Test.YtjkfognelhiepaaGreatR07
import Derived.ScopeJumps
import Derived.WalkMore
namespace Go.Proofs.YtjkfognelhiepaaGreat
open Go.RowKit _root_.Go.Proofs.Tryz
open Value renaming slice→S_,int→I_,bool→B_,string→T_,pointer→P_
open IntKind renaming i64→J_
open Obj renaming cells→C_
open Ending renaming returned→R_
set_option maxRecDepth 100000
set_option maxHeartbeats 8000000
variable{a:Option Addr}{cap n p t:Nat}{e:Ev}{f:Frm}{l:List Nat}{w:World}
theorem ZkG(h:RecOk f)(hs:EvSl w a n cap f.events):Calls prog 115 #[Zah f (S_ a n cap)] w λr w'=>∃v,r=R_ (.tuple #[v,I_ J_ 0])/\w'.ownsRow w.heap.size 5 1 v (recBytes f).length (cells (recBytes f))/\L_ w w':=by
 have h1:=h.kind1;have h6:=h.kind6;rcases(by omega:f.kind=1∨f.kind=2∨f.kind=3∨f.kind=4∨f.kind=5∨f.kind=6) with hk|hk|hk|hk|hk|hk
 ·exact ZsK h hk hs
 ·exact ZsL h hk hs
 ·exact ZsM h hk hs
 ·exact ZsN h hk hs
 ·exact ZsO h hk hs
 ·exact ZsP h hk hs
theorem Zfq(h:Bytes w a n cap l)(hs:∀x∈l,x<256)(m:Nat)(hm:m<=1048576)(rest:List Nat)(hl:l=Zd m++rest):
  Calls prog 201 #[S_ a n cap] w λr w'=>∃A n' C',r=R_ (.tuple #[I_ J_ m,S_ A n' C',B_ true])/\(∀w0,Bytes w0 a n cap l->Bytes w0 A n' C' rest)/\n'<=n/\L_ w w':=by
 have hlen:=h.len;have hp:=Zac m;have i6:(Zd m).length<=n:=by rw[←hlen,hl,ZI];omega
 have ii:=Zc8 h hs;have gD:=Zc9 m rest ZO;rw[←hl]at gD;obtain⟨b,off,rfl,_,_⟩:=h.pos ZO;have l5:l.drop (Zd m).length=rest:=by rw[hl,List.drop_left]
 have dl:∀w0,Bytes w0 (some ⟨b,off,none⟩) n cap l->Bytes w0 (if cap=(Zd m).length then some ⟨b,off,none⟩ else some ⟨b,off+(Zd m).length,none⟩) (n-(Zd m).length) (cap-(Zd m).length) rest:=λw0 h0=>by
  have h1:=h0.rest i6;rw[l5]at h1;exact h1
 have gG:=h.1;have Sw:IntKind.i64.wrap (m:Int)=(m:Int):=IntWalk.i64_in _ ZO;have hd:¬((1048576:Int)<(m:Int)):=ZO;obtain⟨jq,mj,gI⟩:=ZH3 ii gD dl;clear ii gD h hs hl dl hlen l5;generalize (Zd m).length=k at *;have kn:(k:Int)<=(n:Int):=ZO;have zM:(k:Int)<=(cap:Int):=ZO;have cR:(0:Int)<=(k:Int):=ZO;go_enter func201,ntmps201;go_wp2_with fail;refine jq.out.mono ?_;rintro e w1 hP;obtain⟨rfl,rfl⟩:e=R_ (.tuple #[.int .u64 m,I_ J_ k,I_ J_ ((0:Nat):Int)])/\w=w1:=by
  have gB:=hP;unfold Za0 at gB;rw[mj.out]at gB;exact gB
 clear hP;go_wp2_with fail;refine ZSi [(0,3),(1,3),(2,3),(3,3),(4,3),(5,3),(6,3),(7,3)] λcu=>?_
 repeat((first|refine ZSa ?_|refine ZSb ?_|refine ZSc ?_);simp only[Act.put,Q_])
 refine ZSf ?_;go_wp2_with fail
 all_goals(try (have sx:cap=k:=by assumption);try subst sx)
 all_goals
  go_ret3
  refine⟨_,_,_,rfl,λw0 h0=>?_,Nat.sub_le _ _,(ZW _ _).drew⟩;have h:=gI.out w0 h0;first
   |(rw[ZPn (by assumption)]at h;exact h)
   |(rw[ZPp rfl,Nat.sub_self]at h;exact h)
theorem Zhb(h:Bytes w a n cap l)(hs:∀x∈l,x<256)(hn:n<=1000000)(es:List Ev)(iz:∀e∈es,e.Ok)(hlen:es.length<=1000)(rest:List Nat)(hl:l=Zd es.length++(Zg es++rest)):
  Calls prog 202 #[S_ a n cap] w λr w'=>∃v,r=R_ (.tuple #[v,B_ true])/\w'.ownsRow w.heap.size 89 12 v es.length (evCells es)/\L_ w w':=by
 obtain⟨i0,hi,dd,cV,dc⟩:=info_parts ZbV;have Hr:=Zfq h hs es.length ZO (Zg es++rest) hl;have cY:∀x∈Zg es++rest,x<256:=λx hx=>hs x (by rw[hl];exact List.mem_append_right _ hx)
 have sI:¬((4096:Int)<(es.length:Int)):=ZO;obtain⟨HH,qx,Le,gA⟩:=ZH4 h Hr iz cY;clear Hr h hs hl iz cY;go_enter func202,ntmps202;go_wp2_with fail;refine qx.out.mono ?_;rintro _ w1 ⟨A1,n1,C1,rfl,dm,qi,cz⟩;obtain⟨HB,HK⟩:=ZH2 (show Bytes w A1 n1 C1 (Zg (es.drop 0)++rest) from dm w HH.out) (Kept.start cz);have HO:Hid (w1.ownsRow w.heap.size 89 12 (S_ none 0 0) (es.take 0).length (evCells (es.take 0))):=ZH ⟨rfl,.inl ⟨rfl,rfl⟩⟩;have OQ:n1<=1000000:=ZO;clear dm cz;go_wp2_with fail;go_loopw [0,6,8,9,23] (λv0 v4 _ _ i wr=>∃(q:Nat) (A:Option Addr) (n' C':Nat),q<=es.length/\i=I_ J_ q/\v0=S_ A n' C'/\n'<=1000000/\Hid (Bytes w A n' C' (Zg (es.drop q)++rest))/\Hid (wr.ownsRow w.heap.size 89 12 v4 (es.take q).length (evCells (es.take q)))/\Hid (K_ w wr)) (λ_ _ _ _ i _=>es.length-(intOf i).toNat)
 case atStart=>exact⟨0,_,_,_,ZO,rfl,rfl,OQ,HB,HO,HK⟩
 case round =>
  skip
  obtain⟨q,A,n',C',hq,rfl,rfl,D5,tA,HOr,dG⟩:=hrel;by_cases du:q<es.length
  ·obtain⟨e,he⟩:∃e,es[q]? = some e:=⟨_,ZX du⟩;have ep:=Le.out e (ZY he);have l5:es.drop q=e::es.drop (q+1):=by
    rw[List.drop_eq_getElem_cons du];congr 1;rw[ZX du]at he;injection he
   have ev:Zg (es.drop q)++rest=evBytes e++(Zg (es.drop (q+1))++rest):=by
    rw[l5];show evBytes e++Zg (es.drop (q+1))++rest=_
    rw[List.append_assoc]
   have pN:=tA.out.len;have i6:(evBytes e).length<=n':=by
    rw[←pN,ev,ZI];omega
   have eN:1<=(evBytes e).length:=by
    unfold evBytes;simp only[ZI,List.length_cons];omega
   have vG:∀x∈Zg (es.drop q)++rest,x<256:=λx hx=>by
    rw[List.mem_append]at hx;rcases hx with hx|hx
    ·refine gA.out x (List.mem_append_left _ ?_);have e1:Zg es=Zg (es.take q)++Zg (es.drop q):=by
      unfold Zg;rw[←List.flatMap_append,List.take_append_drop]
     rw[e1];exact List.mem_append_right _ hx
    ·exact gA.out x (List.mem_append_right _ hx)
   have ii:=ZjM (tA.out.kept dG.out.below (ZL _)) vG D5 e ep (Zg (es.drop (q+1))++rest) ev;obtain⟨bb,oo,rfl,N3,_⟩:=tA.out.pos ZO;have dl:=tA.out.rest i6;rw[ev,List.drop_left]at dl;have Vq:=tA.out.1;obtain⟨av,cv,rfl,_⟩:=EvSl.ae HOr.out;obtain⟨fy,jq,gI⟩:=ZH3 (Zan he) ii dl;clear ii dl ev l5 he ep vG pN;obtain⟨M,hM⟩:∃M,M=(es.take q).length:=⟨_,rfl⟩;have uB:M<=1000:=by rw[hM,ZV];omega
   rw[←hM]at HOr ⊢;have HM:=ZH hM;clear hM;obtain⟨k,hk⟩:∃k,k=(evBytes e).length:=⟨_,rfl⟩;rw[←hk]at jq gI i6 eN;clear hk;have kn:(k:Int)<=(n':Int):=ZO;have zM:(k:Int)<=(C':Int):=ZO;have cR:(0:Int)<=(k:Int):=ZO;go_wp2_with fail;refine jq.out.mono ?_;rintro _ w3 ⟨rfl,cG⟩;have zr:=(Ze HOr.out cG).alloc (C_ (evArr e) 89);have lM:=(dG.out.step cG).alloc (C_ (evArr e) 89);have hx:=ZBn w3 89 (evArr e);obtain⟨W4,od⟩:∃W4,W4=w3.alloc (C_ (evArr e) 89):=⟨_,rfl⟩;have Ap:Blk W4 w3.heap.size 89 (evArr e):=by rw[od];exact hx
   have Ri:W4.ownsRow w.heap.size 89 12 (S_ av M cv) M (evCells (es.take q)):=by rw[od];exact zr
   have nN:K_ w W4:=by rw[od];exact lM
   have gX:=Ap.lt;obtain⟨x0,x1,x2,x3,x4,x5,x6,x7,x8,x9,fh,fi⟩:=Ap.ag;obtain⟨dO,dw,ru⟩:=ZH3 Ri nN od;clear zr lM Ri nN hx cG Ap od;go_wp2_with fail;rw[←ru.out];have xp:=ZH (Zcj W4.drew e);have te:Hid ((W4.drew.alloc (C_ (evArr e) 89)).ownsRow w.heap.size 89 12 (S_ av M cv) M (evCells (es.take q))):=ZH (dO.out.drew.alloc _);have ti:K_ w (W4.drew.alloc (C_ (evArr e) 89)):=dw.out.drew.alloc _;have fN:=ZH ti;have OH:=ti.le;clear ti;refine ZSi [(0,3),(1,0),(4,3),(5,3),(6,3),(2,1),(3,2),(7,3),(8,3)] λcu=>?_
   repeat((first|refine ZSa ?_|refine ZSb ?_|refine ZSc ?_);simp only[Act.put,Q_])
   refine ZSd λK hK=>?_
   go_simp;refine hK.out (λw'=>K_ W4 w') _ _ (λ_ h=>h) (cu.alloc _) (λcA=>?_);clear hK K cu;repeat((first|refine ZSa ?_|refine ZSb ?_|refine ZSc ?_);simp only[Act.put,Q_])
   refine ZSe λK hK=>?_
   refine Za9 _ (.tmp 33) (.tmp 35) _ rfl w.heap.size 89 i0 _ 12 112 underlying128 hi dd cV dc rfl ZO (S_ av M cv) M (evCells (es.take q)) rfl te.out (W4.heap.size+1) (some ⟨W4.heap.size,0,none⟩) 1 1 (evArr e).toList rfl xp.out (ZaT e) ZF ZO OH ?_;intro v7 w7 cF db _;have it:w7.ownsRow w.heap.size 89 12 v7 (es.take (q+1)).length (evCells (es.take (q+1))):=by
    rw[fy.out];have h:=cF;rw[HM.out]at h;exact RowE.snoc h
   have fx:Hid (K_ w w7):=ZH (⟨fN.out.below.grown db fN.out.le (λg hg=>(Zb te.out hg).1),ZT fN.out.le db.size⟩);have iG:=ZH it;clear cF it db;refine hK.out _ _ ?_;clear hK K cA;repeat((first|refine ZSa ?_|refine ZSb ?_|refine ZSc ?_);simp only[Act.put,Q_])
   refine ZSf ?_;go_wp2
   go_roundw
   case rel=>exact⟨q+1,_,_,_,ZO,ZN,rfl,ZO,gI,iG,fx⟩
   case measure=>simp[intOf];omega
  ·obtain rfl:q=es.length:=ZO;rw[List.take_length]at HOr;obtain⟨av,cv,rfl,_⟩:=EvSl.ae HOr.out;go_wp2_with fail;go_ret2
   exact⟨_,rfl,HOr.out,dG.out.below⟩
theorem ZaD(f:Frm)(v:Value):(prog.info? 150).map (λi=>i.size)=some (Za f v).size:=ZK
theorem Zrg(h:RecOk f)(dZ:f.kind=3)(hb:Bytes w a n cap (Z2 f)):
  Calls prog 172 #[S_ a n cap] w λr w'=>∃v,r=R_ (.tuple #[Zah f v,B_ true])/\w'.ownsRow w.heap.size 89 12 v f.events.length (evCells f.events)/\Below w.heap.size w w':=by
 have cY:=ZaM h;have cW:=Zbl h;have hr:=h.r;have dJ:=h.upto;have fX:=h.len;have eD:=h.clock;obtain⟨kind,r,upto,clock,events⟩:=f;simp only[]at dZ hr dJ fX eD;subst dZ;have H:=ZH h;clear h;have eo:clock=ZCz:=H.out.clock0 ZM;have li:events=[]:=H.out.events0 ZM;subst eo li;obtain⟨T,hT⟩:∃T,T=(Zd upto++[]):=⟨_,rfl⟩;have eJ:Z2 ⟨3,r,upto,ZCz,[]⟩=3::r::T:=by rw[hT];simp[Z2,upK,clK,evK]
 rw[eJ]at hb cY cW;have wh:1<=T.length:=by
  rw[hT];first|(have:=Zac upto;rw[ZI];omega)|(have:=Zac events.length;rw[ZI];omega)|(have:=Zac (clock.get 4);simp only[Zz,ZI];omega)
 have fm:=hb.len;have lu:2+T.length=n:=by
  rw[←fm];simp only[List.length_cons];omega
 have wi:T.length<=60098:=by simp only[List.length_cons]at cW;omega
 obtain⟨b,off,rfl,cH,cB⟩:=hb.pos ZO;have gG:=hb.1;have k0:=cB 0 ZO;have k1:=cB 1 ZO;rw[Nat.add_zero,show(3::r::T).getD 0 0=3 from rfl]at k0;rw[show(3::r::T).getD 1 0=r from rfl]at k1;have dl:=hb.rest (k:=2) ZO;rw[ZPn ZO,show(3::r::T).drop 2=T from rfl]at dl;have eZ:Hid (∀x∈T,x<256):=ZH (λx hx=>cY x (List.mem_cons_of_mem _ (List.mem_cons_of_mem _ hx)));obtain⟨gI,HT⟩:=ZH2 dl hT;have lw:¬((n:Int)<2):=ZO;have vj:(0:Int)<(n:Int):=ZO;have vk:0<n:=ZO;have vm:1<n:=ZO;have lR:(1:Int)<(n:Int):=ZO;have lS:(2:Int)<=(n:Int):=ZO;have lT:(2:Int)<=(cap:Int):=ZO;have oJ:IntKind.i64.wrap (r:Int)=(r:Int):=by rw[IntKind.wrap_i64];omega
 have vN:IntKind.i64.wrap (3:Int)=3:=by rw[IntKind.wrap_i64];omega
 have kf:¬(cap=2):=ZO;obtain⟨w1,dn⟩:∃w1,w1=w.alloc (C_ (Za ⟨0,0,0,ZCz,[]⟩ (S_ none 0 0)) 150):=⟨_,rfl⟩;have fe:Kept w.heap.size w w1:=by rw[dn];exact(ZKr w).alloc _
 have gJ:Blk w1 w.heap.size 150 (Za ⟨0,0,0,ZCz,[]⟩ (S_ none 0 0)):=by rw[dn];exact ZBn _ _ _
 have nu:b<w1.heap.size:=ZR cH fe.le;have nF:w1.cell? ⟨b,off,none⟩=some (.int .u8 ((3:Nat):Int)):=by rw[fe.cells b _ cH];exact k0
 have nG:w1.cell? ⟨b,off+1,none⟩=some (.int .u8 (r:Int)):=by rw[fe.cells b _ cH];exact k1
 obtain⟨da,fO,gk⟩:=ZH3 fe gJ dn;clear hb cY cW fm cB dl hT eJ fe gJ dn k0 k1 eD;go_enter func172,ntmps172;go_wp2_with fail;change Code.wp _ _ _ _ (w.alloc (C_ (Za ⟨0,0,0,ZCz,[]⟩ (S_ none 0 0)) 150));rw[←gk.out];refine ZSi [(0,3),(1,3),(2,0),(3,3),(4,3),(5,3),(6,0),(7,3),(8,3),(9,1),(10,2)] λcu=>?_
 repeat((first|refine ZSa ?_|refine ZSb ?_|refine ZSc ?_);simp only[Act.put,Q_])
 refine ZSd λK hK=>?_
 go_simp;refine hK.out (λw'=>Kept w1.heap.size w1 w') _ _ (λ_ h=>h) (cu.alloc _) (λcA=>?_);clear hK K cu;repeat((first|refine ZSa ?_|refine ZSb ?_|refine ZSc ?_);simp only[Act.put,Q_])
 refine ZSe λK hK=>?_
 go_simp;refine hK.out _ _ ?_;clear hK K;refine ZSf ?_;obtain⟨w2,di⟩:∃w2,w2=(w1.alloc (C_ (Za ⟨3,r,0,ZCz,[]⟩ (S_ none 0 0)) 150)).drew:=⟨_,rfl⟩;change Exit.then _ _ Exit.normal _ ((w1.alloc (C_ (Za ⟨3,r,0,ZCz,[]⟩ (S_ none 0 0)) 150)).drew);rw[←di];have fU:Blk w2 w1.heap.size 150 (Za ⟨3,r,0,ZCz,[]⟩ (S_ none 0 0)):=by rw[di];exact(ZBn _ _ _).drew
 have gU:Kept w.heap.size w w2:=by rw[di];exact(da.out.alloc _).drew
 have gm:Blk w2 w.heap.size 150 (Za ⟨0,0,0,ZCz,[]⟩ (S_ none 0 0)):=by rw[di];exact(fO.out.alloc _).drew
 have oR:w.heap.size<w1.heap.size:=fO.out.lt;obtain⟨c0,c1,c2,c3,c4,c5,c6,c7,c8⟩:=fU.nine;have fE:=fU.lt;obtain⟨j9,cO,fP⟩:=ZH3 fU gU gm;clear fU gU gm di cA nF nG;generalize w1.heap.size=G at *;have mY:w.heap.size≠G:=ZO;have np:w.heap.size<=G:=ZO;go_wp2_with fail;refine(ZaR 3 ZO ZO _).mono ?_;rintro _ w3 ⟨rfl,cG⟩;rw[show upK 3=true from rfl,show evK 3=false from rfl,show clK 3=false from rfl];obtain⟨HF,HR,HK⟩:=ZH3 (j9.out.ob cG) (fP.out.ob cG) (cO.out.step cG);have jF:=HF.out.lt;clear cG c0 c1 c2 c3 c4 c5 c6 c7 c8 fE;have OR:n-2<=60098:=ZO;go_wp2_with fail;refine(Zfq (gI.out.kept HK.out.below (ZL _)) eZ.out upto dJ [] (by rw[HT.out])).mono ?_;rintro _ w4 ⟨A4,n4,C4,rfl,jB,rJ,cS⟩;have gg:=HF.out.ob cS;obtain⟨c0,c1,c2,c3,c4,c5,c6,c7,c8⟩:=gg.nine;have f2:=gg.frozen 2;have fE:=gg.lt;obtain⟨gS,dw,nH,gy⟩:=ZH4 (HR.out.ob cS) (HK.out.step cS) gg (jB w gI.out);clear gg cS jB;obtain⟨W5,ir⟩:∃W5,W5=w4.setCell ⟨G,2,none⟩ (I_ J_ (upto:Int)):=⟨_,rfl⟩;have HF:Hid (Blk W5 G 150 (Za ⟨3,r,upto,ZCz,[]⟩ (S_ none 0 0))):=ZH (by rw[ir];exact nH.out.aj 2 _);have HR:Hid (Blk W5 w.heap.size 150 (Za ⟨0,0,0,ZCz,[]⟩ (S_ none 0 0))):=ZH (by rw[ir];exact gS.out.far mY _);have HK:Hid (Kept w.heap.size w W5):=ZH (by rw[ir];exact dw.out.setCell (by show w.heap.size<=G;omega) _);have qD:=ZH ir;have OS:n4<=60098:=ZO;clear ir
 go_wp2_with (first
  |(refine wpList_load_row rfl 150 (.tmp 4) rfl G rfl 150 (Za ⟨3,r,upto,ZCz,[]⟩ (S_ none 0 0)) (0,0) _ (by rw[←qD.out];exact HF.out) underlying150 rfl (ZaD _ _) ?_
    rw[←qD.out])
  |(refine wpList_store_row rfl 150 (.tmp 2) (.tmp 72) rfl w.heap.size (Za ⟨3,r,upto,ZCz,[]⟩ (S_ none 0 0)) rfl rfl 150 (Za ⟨0,0,0,ZCz,[]⟩ (S_ none 0 0)) HR.out (ZaD _ _) rfl (Zbt _ _ _ _) ?_))
 refine bodyPost_ret (Zq rfl rfl rfl (run_loadVar_row _ _ _ _ _ _ _ (HR.out.row _) underlying150 rfl (ZaD _ _))) rfl ?_;exact⟨(S_ none 0 0),rfl,⟨rfl,.inl ⟨rfl,rfl⟩⟩,(HK.out.row (ZL _) _).below⟩
theorem Zrh(h:RecOk f)(dZ:f.kind=4)(hb:Bytes w a n cap (Z2 f)):
  Calls prog 172 #[S_ a n cap] w λr w'=>∃v,r=R_ (.tuple #[Zah f v,B_ true])/\w'.ownsRow w.heap.size 89 12 v f.events.length (evCells f.events)/\Below w.heap.size w w':=by
 have cY:=ZaM h;have cW:=Zbl h;have hr:=h.r;have dJ:=h.upto;have fX:=h.len;have eD:=h.clock;obtain⟨kind,r,upto,clock,events⟩:=f;simp only[]at dZ hr dJ fX eD;subst dZ;have H:=ZH h;clear h;have eo:clock=ZCz:=H.out.clock0 ZM;subst eo;obtain⟨T,hT⟩:∃T,T=(Zd upto++(Zd events.length++(Zg events++[]))):=⟨_,rfl⟩;have eJ:Z2 ⟨4,r,upto,ZCz,events⟩=4::r::T:=by rw[hT];simp[Z2,upK,clK,evK]
 rw[eJ]at hb cY cW;have wh:1<=T.length:=by
  rw[hT];first|(have:=Zac upto;rw[ZI];omega)|(have:=Zac events.length;rw[ZI];omega)|(have:=Zac (clock.get 4);simp only[Zz,ZI];omega)
 have fm:=hb.len;have lu:2+T.length=n:=by
  rw[←fm];simp only[List.length_cons];omega
 have wi:T.length<=60098:=by simp only[List.length_cons]at cW;omega
 obtain⟨b,off,rfl,cH,cB⟩:=hb.pos ZO;have gG:=hb.1;have k0:=cB 0 ZO;have k1:=cB 1 ZO;rw[Nat.add_zero,show(4::r::T).getD 0 0=4 from rfl]at k0;rw[show(4::r::T).getD 1 0=r from rfl]at k1;have dl:=hb.rest (k:=2) ZO;rw[ZPn ZO,show(4::r::T).drop 2=T from rfl]at dl;have eZ:Hid (∀x∈T,x<256):=ZH (λx hx=>cY x (List.mem_cons_of_mem _ (List.mem_cons_of_mem _ hx)));obtain⟨gI,HT⟩:=ZH2 dl hT;have lw:¬((n:Int)<2):=ZO;have vj:(0:Int)<(n:Int):=ZO;have vk:0<n:=ZO;have vm:1<n:=ZO;have lR:(1:Int)<(n:Int):=ZO;have lS:(2:Int)<=(n:Int):=ZO;have lT:(2:Int)<=(cap:Int):=ZO;have oJ:IntKind.i64.wrap (r:Int)=(r:Int):=by rw[IntKind.wrap_i64];omega
 have vN:IntKind.i64.wrap (4:Int)=4:=by rw[IntKind.wrap_i64];omega
 have kf:¬(cap=2):=ZO;obtain⟨w1,dn⟩:∃w1,w1=w.alloc (C_ (Za ⟨0,0,0,ZCz,[]⟩ (S_ none 0 0)) 150):=⟨_,rfl⟩;have fe:Kept w.heap.size w w1:=by rw[dn];exact(ZKr w).alloc _
 have gJ:Blk w1 w.heap.size 150 (Za ⟨0,0,0,ZCz,[]⟩ (S_ none 0 0)):=by rw[dn];exact ZBn _ _ _
 have nu:b<w1.heap.size:=ZR cH fe.le;have nF:w1.cell? ⟨b,off,none⟩=some (.int .u8 ((4:Nat):Int)):=by rw[fe.cells b _ cH];exact k0
 have nG:w1.cell? ⟨b,off+1,none⟩=some (.int .u8 (r:Int)):=by rw[fe.cells b _ cH];exact k1
 obtain⟨da,fO,gk⟩:=ZH3 fe gJ dn;clear hb cY cW fm cB dl hT eJ fe gJ dn k0 k1 eD;go_enter func172,ntmps172;go_wp2_with fail;change Code.wp _ _ _ _ (w.alloc (C_ (Za ⟨0,0,0,ZCz,[]⟩ (S_ none 0 0)) 150));rw[←gk.out];refine ZSi [(0,3),(1,3),(2,0),(3,3),(4,3),(5,3),(6,0),(7,3),(8,3),(9,1),(10,2)] λcu=>?_
 repeat((first|refine ZSa ?_|refine ZSb ?_|refine ZSc ?_);simp only[Act.put,Q_])
 refine ZSd λK hK=>?_
 go_simp;refine hK.out (λw'=>Kept w1.heap.size w1 w') _ _ (λ_ h=>h) (cu.alloc _) (λcA=>?_);clear hK K cu;repeat((first|refine ZSa ?_|refine ZSb ?_|refine ZSc ?_);simp only[Act.put,Q_])
 refine ZSe λK hK=>?_
 go_simp;refine hK.out _ _ ?_;clear hK K;refine ZSf ?_;obtain⟨w2,di⟩:∃w2,w2=(w1.alloc (C_ (Za ⟨4,r,0,ZCz,[]⟩ (S_ none 0 0)) 150)).drew:=⟨_,rfl⟩;change Exit.then _ _ Exit.normal _ ((w1.alloc (C_ (Za ⟨4,r,0,ZCz,[]⟩ (S_ none 0 0)) 150)).drew);rw[←di];have fU:Blk w2 w1.heap.size 150 (Za ⟨4,r,0,ZCz,[]⟩ (S_ none 0 0)):=by rw[di];exact(ZBn _ _ _).drew
 have gU:Kept w.heap.size w w2:=by rw[di];exact(da.out.alloc _).drew
 have gm:Blk w2 w.heap.size 150 (Za ⟨0,0,0,ZCz,[]⟩ (S_ none 0 0)):=by rw[di];exact(fO.out.alloc _).drew
 have oR:w.heap.size<w1.heap.size:=fO.out.lt;obtain⟨c0,c1,c2,c3,c4,c5,c6,c7,c8⟩:=fU.nine;have fE:=fU.lt;obtain⟨j9,cO,fP⟩:=ZH3 fU gU gm;clear fU gU gm di cA nF nG;generalize w1.heap.size=G at *;have mY:w.heap.size≠G:=ZO;have np:w.heap.size<=G:=ZO;go_wp2_with fail;refine(ZaR 4 ZO ZO _).mono ?_;rintro _ w3 ⟨rfl,cG⟩;rw[show upK 4=true from rfl,show evK 4=true from rfl,show clK 4=false from rfl];obtain⟨HF,HR,HK⟩:=ZH3 (j9.out.ob cG) (fP.out.ob cG) (cO.out.step cG);have jF:=HF.out.lt;clear cG c0 c1 c2 c3 c4 c5 c6 c7 c8 fE;have OR:n-2<=60098:=ZO;go_wp2_with fail;refine(Zfq (gI.out.kept HK.out.below (ZL _)) eZ.out upto dJ (Zd events.length++(Zg events++[])) (by rw[HT.out])).mono ?_;rintro _ w4 ⟨A4,n4,C4,rfl,jB,rJ,cS⟩;have gg:=HF.out.ob cS;obtain⟨c0,c1,c2,c3,c4,c5,c6,c7,c8⟩:=gg.nine;have f2:=gg.frozen 2;have fE:=gg.lt;obtain⟨gS,dw,nH,gy⟩:=ZH4 (HR.out.ob cS) (HK.out.step cS) gg (jB w gI.out);clear gg cS jB;obtain⟨W5,ir⟩:∃W5,W5=w4.setCell ⟨G,2,none⟩ (I_ J_ (upto:Int)):=⟨_,rfl⟩;have HF:Hid (Blk W5 G 150 (Za ⟨4,r,upto,ZCz,[]⟩ (S_ none 0 0))):=ZH (by rw[ir];exact nH.out.aj 2 _);have HR:Hid (Blk W5 w.heap.size 150 (Za ⟨0,0,0,ZCz,[]⟩ (S_ none 0 0))):=ZH (by rw[ir];exact gS.out.far mY _);have HK:Hid (Kept w.heap.size w W5):=ZH (by rw[ir];exact dw.out.setCell (by show w.heap.size<=G;omega) _);have qD:=ZH ir;have OS:n4<=60098:=ZO;clear ir;go_wp2_with fail;rw[←qD.out];refine(Zhb (gy.out.kept HK.out.below (ZL _)) (λx hx=>eZ.out x (by rw[HT.out];exact List.mem_append_right _ hx)) ZO events H.out.events fX [] rfl).mono ?_;rintro _ w6 ⟨VV,rfl,oI,eK⟩;have mp:=HF.out.ob eK;obtain⟨c0,c1,c2,c3,c4,c5,c6,c7,c8⟩:=mp.nine;have f8:=mp.frozen 8;have ve:=mp.lt;obtain⟨nL,nd⟩:=ZH2 (HR.out.ob eK) (HK.out.step eK);have mK:=HF.out.lt;obtain⟨BB,pk⟩:∃BB,BB=W5.heap.size:=⟨_,rfl⟩;rw[←pk]at oI mK;obtain⟨av,cv,rfl,_⟩:=EvSl.ae oI;obtain⟨rY,ug⟩:=ZH2 mp oI;clear mp eK oI pk;obtain⟨W7,jk⟩:∃W7,W7=w6.setCell ⟨G,8,none⟩ (S_ av events.length cv):=⟨_,rfl⟩;have HF:Hid (Blk W7 G 150 (Za ⟨4,r,upto,ZCz,events⟩ (S_ av events.length cv))):=ZH (by rw[jk];exact rY.out.aj 8 _);have HR:Hid (Blk W7 w.heap.size 150 (Za ⟨0,0,0,ZCz,[]⟩ (S_ none 0 0))):=ZH (by rw[jk];exact nL.out.far mY _);have HK:Hid (Kept w.heap.size w W7):=ZH (by rw[jk];exact nd.out.setCell (by show w.heap.size<=G;omega) _)
 have uh:Hid (W7.ownsRow BB 89 12 (S_ av events.length cv) events.length (evCells events)):=ZH (by
  rw[jk]
  exact Zi ug.out (λg hg _=>Below.heap_setCell _ _ _ _ (λe=>by have:=Zb ug.out hg;have e:g=G:=e;omega)))
 have qE:=ZH jk;clear jk
 go_wp2_with (first
  |(refine wpList_load_row rfl 150 (.tmp 4) rfl G rfl 150 (Za ⟨4,r,upto,ZCz,events⟩ (S_ av events.length cv)) (0,0) _ (by rw[←qE.out];exact HF.out) underlying150 rfl (ZaD _ _) ?_
    rw[←qE.out])
  |(refine wpList_store_row rfl 150 (.tmp 2) (.tmp 72) rfl w.heap.size (Za ⟨4,r,upto,ZCz,events⟩ (S_ av events.length cv)) rfl rfl 150 (Za ⟨0,0,0,ZCz,[]⟩ (S_ none 0 0)) HR.out (ZaD _ _) rfl (Zbt _ _ _ _) ?_))
 refine bodyPost_ret (Zq rfl rfl rfl (run_loadVar_row _ _ _ _ _ _ _ (HR.out.row _) underlying150 rfl (ZaD _ _))) rfl ?_;exact⟨(S_ av events.length cv),rfl,Zj (Zi uh.out (λg hg _=>setRow_other _ _ _ _ (by have:=Zb uh.out hg;omega))) ZO,(HK.out.row (ZL _) _).below⟩
theorem Zri(h:RecOk f)(dZ:f.kind=5)(hb:Bytes w a n cap (Z2 f)):
  Calls prog 172 #[S_ a n cap] w λr w'=>∃v,r=R_ (.tuple #[Zah f v,B_ true])/\w'.ownsRow w.heap.size 89 12 v f.events.length (evCells f.events)/\Below w.heap.size w w':=by
 have cY:=ZaM h;have cW:=Zbl h;have hr:=h.r;have dJ:=h.upto;have fX:=h.len;have eD:=h.clock;obtain⟨kind,r,upto,clock,events⟩:=f;simp only[]at dZ hr dJ fX eD;subst dZ;have H:=ZH h;clear h;have eo:clock=ZCz:=H.out.clock0 ZM;have dt:upto=0:=H.out.upto0 ZM ZM;subst eo dt;obtain⟨T,hT⟩:∃T,T=(Zd events.length++(Zg events++[])):=⟨_,rfl⟩;have eJ:Z2 ⟨5,r,0,ZCz,events⟩=5::r::T:=by rw[hT];simp[Z2,upK,clK,evK]
 rw[eJ]at hb cY cW;have wh:1<=T.length:=by
  rw[hT];first|(have:=Zac upto;rw[ZI];omega)|(have:=Zac events.length;rw[ZI];omega)|(have:=Zac (clock.get 4);simp only[Zz,ZI];omega)
 have fm:=hb.len;have lu:2+T.length=n:=by
  rw[←fm];simp only[List.length_cons];omega
 have wi:T.length<=60098:=by simp only[List.length_cons]at cW;omega
 obtain⟨b,off,rfl,cH,cB⟩:=hb.pos ZO;have gG:=hb.1;have k0:=cB 0 ZO;have k1:=cB 1 ZO;rw[Nat.add_zero,show(5::r::T).getD 0 0=5 from rfl]at k0;rw[show(5::r::T).getD 1 0=r from rfl]at k1;have dl:=hb.rest (k:=2) ZO;rw[ZPn ZO,show(5::r::T).drop 2=T from rfl]at dl;have eZ:Hid (∀x∈T,x<256):=ZH (λx hx=>cY x (List.mem_cons_of_mem _ (List.mem_cons_of_mem _ hx)));obtain⟨gI,HT⟩:=ZH2 dl hT;have lw:¬((n:Int)<2):=ZO;have vj:(0:Int)<(n:Int):=ZO;have vk:0<n:=ZO;have vm:1<n:=ZO;have lR:(1:Int)<(n:Int):=ZO;have lS:(2:Int)<=(n:Int):=ZO;have lT:(2:Int)<=(cap:Int):=ZO;have oJ:IntKind.i64.wrap (r:Int)=(r:Int):=by rw[IntKind.wrap_i64];omega
 have vN:IntKind.i64.wrap (5:Int)=5:=by rw[IntKind.wrap_i64];omega
 have kf:¬(cap=2):=ZO;obtain⟨w1,dn⟩:∃w1,w1=w.alloc (C_ (Za ⟨0,0,0,ZCz,[]⟩ (S_ none 0 0)) 150):=⟨_,rfl⟩;have fe:Kept w.heap.size w w1:=by rw[dn];exact(ZKr w).alloc _
 have gJ:Blk w1 w.heap.size 150 (Za ⟨0,0,0,ZCz,[]⟩ (S_ none 0 0)):=by rw[dn];exact ZBn _ _ _
 have nu:b<w1.heap.size:=ZR cH fe.le;have nF:w1.cell? ⟨b,off,none⟩=some (.int .u8 ((5:Nat):Int)):=by rw[fe.cells b _ cH];exact k0
 have nG:w1.cell? ⟨b,off+1,none⟩=some (.int .u8 (r:Int)):=by rw[fe.cells b _ cH];exact k1
 obtain⟨da,fO,gk⟩:=ZH3 fe gJ dn;clear hb cY cW fm cB dl hT eJ fe gJ dn k0 k1 eD;go_enter func172,ntmps172;go_wp2_with fail;change Code.wp _ _ _ _ (w.alloc (C_ (Za ⟨0,0,0,ZCz,[]⟩ (S_ none 0 0)) 150));rw[←gk.out];refine ZSi [(0,3),(1,3),(2,0),(3,3),(4,3),(5,3),(6,0),(7,3),(8,3),(9,1),(10,2)] λcu=>?_
 repeat((first|refine ZSa ?_|refine ZSb ?_|refine ZSc ?_);simp only[Act.put,Q_])
 refine ZSd λK hK=>?_
 go_simp;refine hK.out (λw'=>Kept w1.heap.size w1 w') _ _ (λ_ h=>h) (cu.alloc _) (λcA=>?_);clear hK K cu;repeat((first|refine ZSa ?_|refine ZSb ?_|refine ZSc ?_);simp only[Act.put,Q_])
 refine ZSe λK hK=>?_
 go_simp;refine hK.out _ _ ?_;clear hK K;refine ZSf ?_;obtain⟨w2,di⟩:∃w2,w2=(w1.alloc (C_ (Za ⟨5,r,0,ZCz,[]⟩ (S_ none 0 0)) 150)).drew:=⟨_,rfl⟩;change Exit.then _ _ Exit.normal _ ((w1.alloc (C_ (Za ⟨5,r,0,ZCz,[]⟩ (S_ none 0 0)) 150)).drew);rw[←di];have fU:Blk w2 w1.heap.size 150 (Za ⟨5,r,0,ZCz,[]⟩ (S_ none 0 0)):=by rw[di];exact(ZBn _ _ _).drew
 have gU:Kept w.heap.size w w2:=by rw[di];exact(da.out.alloc _).drew
 have gm:Blk w2 w.heap.size 150 (Za ⟨0,0,0,ZCz,[]⟩ (S_ none 0 0)):=by rw[di];exact(fO.out.alloc _).drew
 have oR:w.heap.size<w1.heap.size:=fO.out.lt;obtain⟨c0,c1,c2,c3,c4,c5,c6,c7,c8⟩:=fU.nine;have fE:=fU.lt;obtain⟨j9,cO,fP⟩:=ZH3 fU gU gm;clear fU gU gm di cA nF nG;generalize w1.heap.size=G at *;have mY:w.heap.size≠G:=ZO;have np:w.heap.size<=G:=ZO;go_wp2_with fail;refine(ZaR 5 ZO ZO _).mono ?_;rintro _ w3 ⟨rfl,cG⟩;rw[show upK 5=false from rfl,show evK 5=true from rfl,show clK 5=false from rfl];obtain⟨HF,HR,HK⟩:=ZH3 (j9.out.ob cG) (fP.out.ob cG) (cO.out.step cG);have jF:=HF.out.lt;clear cG c0 c1 c2 c3 c4 c5 c6 c7 c8 fE;go_wp2_with fail;refine(Zhb (gI.out.kept HK.out.below (ZL _)) (eZ.out) ZO events H.out.events fX [] HT.out).mono ?_;rintro _ w6 ⟨VV,rfl,oI,eK⟩;have mp:=HF.out.ob eK;obtain⟨c0,c1,c2,c3,c4,c5,c6,c7,c8⟩:=mp.nine;have f8:=mp.frozen 8;have ve:=mp.lt;obtain⟨nL,nd⟩:=ZH2 (HR.out.ob eK) (HK.out.step eK);have mK:=HF.out.lt;obtain⟨BB,pk⟩:∃BB,BB=w3.heap.size:=⟨_,rfl⟩;rw[←pk]at oI mK;obtain⟨av,cv,rfl,_⟩:=EvSl.ae oI;obtain⟨rY,ug⟩:=ZH2 mp oI;clear mp eK oI pk;obtain⟨W7,jk⟩:∃W7,W7=w6.setCell ⟨G,8,none⟩ (S_ av events.length cv):=⟨_,rfl⟩;have HF:Hid (Blk W7 G 150 (Za ⟨5,r,0,ZCz,events⟩ (S_ av events.length cv))):=ZH (by rw[jk];exact rY.out.aj 8 _);have HR:Hid (Blk W7 w.heap.size 150 (Za ⟨0,0,0,ZCz,[]⟩ (S_ none 0 0))):=ZH (by rw[jk];exact nL.out.far mY _);have HK:Hid (Kept w.heap.size w W7):=ZH (by rw[jk];exact nd.out.setCell (by show w.heap.size<=G;omega) _)
 have uh:Hid (W7.ownsRow BB 89 12 (S_ av events.length cv) events.length (evCells events)):=ZH (by
  rw[jk]
  exact Zi ug.out (λg hg _=>Below.heap_setCell _ _ _ _ (λe=>by have:=Zb ug.out hg;have e:g=G:=e;omega)))
 have qE:=ZH jk;clear jk
 go_wp2_with (first
  |(refine wpList_load_row rfl 150 (.tmp 4) rfl G rfl 150 (Za ⟨5,r,0,ZCz,events⟩ (S_ av events.length cv)) (0,0) _ (by rw[←qE.out];exact HF.out) underlying150 rfl (ZaD _ _) ?_
    rw[←qE.out])
  |(refine wpList_store_row rfl 150 (.tmp 2) (.tmp 72) rfl w.heap.size (Za ⟨5,r,0,ZCz,events⟩ (S_ av events.length cv)) rfl rfl 150 (Za ⟨0,0,0,ZCz,[]⟩ (S_ none 0 0)) HR.out (ZaD _ _) rfl (Zbt _ _ _ _) ?_))
 refine bodyPost_ret (Zq rfl rfl rfl (run_loadVar_row _ _ _ _ _ _ _ (HR.out.row _) underlying150 rfl (ZaD _ _))) rfl ?_;exact⟨(S_ av events.length cv),rfl,Zj (Zi uh.out (λg hg _=>setRow_other _ _ _ _ (by have:=Zb uh.out hg;omega))) ZO,(HK.out.row (ZL _) _).below⟩
theorem Zre(h:RecOk f)(dZ:f.kind=1)(hb:Bytes w a n cap (Z2 f)):
  Calls prog 172 #[S_ a n cap] w λr w'=>∃v,r=R_ (.tuple #[Zah f v,B_ true])/\w'.ownsRow w.heap.size 89 12 v f.events.length (evCells f.events)/\Below w.heap.size w w':=by
 have cY:=ZaM h;have cW:=Zbl h;have hr:=h.r;have dJ:=h.upto;have fX:=h.len;have eD:=h.clock;obtain⟨kind,r,upto,clock,events⟩:=f;simp only[]at dZ hr dJ fX eD;subst dZ;have H:=ZH h;clear h;have eo:clock=ZCz:=H.out.clock0 ZM;have dt:upto=0:=H.out.upto0 ZM ZM;subst eo dt;obtain⟨T,hT⟩:∃T,T=(Zd events.length++(Zg events++[])):=⟨_,rfl⟩;have eJ:Z2 ⟨1,r,0,ZCz,events⟩=1::r::T:=by rw[hT];simp[Z2,upK,clK,evK]
 rw[eJ]at hb cY cW;have wh:1<=T.length:=by
  rw[hT];first|(have:=Zac upto;rw[ZI];omega)|(have:=Zac events.length;rw[ZI];omega)|(have:=Zac (clock.get 4);simp only[Zz,ZI];omega)
 have fm:=hb.len;have lu:2+T.length=n:=by
  rw[←fm];simp only[List.length_cons];omega
 have wi:T.length<=60098:=by simp only[List.length_cons]at cW;omega
 obtain⟨b,off,rfl,cH,cB⟩:=hb.pos ZO;have gG:=hb.1;have k0:=cB 0 ZO;have k1:=cB 1 ZO;rw[Nat.add_zero,show(1::r::T).getD 0 0=1 from rfl]at k0;rw[show(1::r::T).getD 1 0=r from rfl]at k1;have dl:=hb.rest (k:=2) ZO;rw[ZPn ZO,show(1::r::T).drop 2=T from rfl]at dl;have eZ:Hid (∀x∈T,x<256):=ZH (λx hx=>cY x (List.mem_cons_of_mem _ (List.mem_cons_of_mem _ hx)));obtain⟨gI,HT⟩:=ZH2 dl hT;have lw:¬((n:Int)<2):=ZO;have vj:(0:Int)<(n:Int):=ZO;have vk:0<n:=ZO;have vm:1<n:=ZO;have lR:(1:Int)<(n:Int):=ZO;have lS:(2:Int)<=(n:Int):=ZO;have lT:(2:Int)<=(cap:Int):=ZO;have oJ:IntKind.i64.wrap (r:Int)=(r:Int):=by rw[IntKind.wrap_i64];omega
 have vN:IntKind.i64.wrap (1:Int)=1:=by rw[IntKind.wrap_i64];omega
 have kf:¬(cap=2):=ZO;obtain⟨w1,dn⟩:∃w1,w1=w.alloc (C_ (Za ⟨0,0,0,ZCz,[]⟩ (S_ none 0 0)) 150):=⟨_,rfl⟩;have fe:Kept w.heap.size w w1:=by rw[dn];exact(ZKr w).alloc _
 have gJ:Blk w1 w.heap.size 150 (Za ⟨0,0,0,ZCz,[]⟩ (S_ none 0 0)):=by rw[dn];exact ZBn _ _ _
 have nu:b<w1.heap.size:=ZR cH fe.le;have nF:w1.cell? ⟨b,off,none⟩=some (.int .u8 ((1:Nat):Int)):=by rw[fe.cells b _ cH];exact k0
 have nG:w1.cell? ⟨b,off+1,none⟩=some (.int .u8 (r:Int)):=by rw[fe.cells b _ cH];exact k1
 obtain⟨da,fO,gk⟩:=ZH3 fe gJ dn;clear hb cY cW fm cB dl hT eJ fe gJ dn k0 k1 eD;go_enter func172,ntmps172;go_wp2_with fail;change Code.wp _ _ _ _ (w.alloc (C_ (Za ⟨0,0,0,ZCz,[]⟩ (S_ none 0 0)) 150));rw[←gk.out];refine ZSi [(0,3),(1,3),(2,0),(3,3),(4,3),(5,3),(6,0),(7,3),(8,3),(9,1),(10,2)] λcu=>?_
 repeat((first|refine ZSa ?_|refine ZSb ?_|refine ZSc ?_);simp only[Act.put,Q_])
 refine ZSd λK hK=>?_
 go_simp;refine hK.out (λw'=>Kept w1.heap.size w1 w') _ _ (λ_ h=>h) (cu.alloc _) (λcA=>?_);clear hK K cu;repeat((first|refine ZSa ?_|refine ZSb ?_|refine ZSc ?_);simp only[Act.put,Q_])
 refine ZSe λK hK=>?_
 go_simp;refine hK.out _ _ ?_;clear hK K;refine ZSf ?_;obtain⟨w2,di⟩:∃w2,w2=(w1.alloc (C_ (Za ⟨1,r,0,ZCz,[]⟩ (S_ none 0 0)) 150)).drew:=⟨_,rfl⟩;change Exit.then _ _ Exit.normal _ ((w1.alloc (C_ (Za ⟨1,r,0,ZCz,[]⟩ (S_ none 0 0)) 150)).drew);rw[←di];have fU:Blk w2 w1.heap.size 150 (Za ⟨1,r,0,ZCz,[]⟩ (S_ none 0 0)):=by rw[di];exact(ZBn _ _ _).drew
 have gU:Kept w.heap.size w w2:=by rw[di];exact(da.out.alloc _).drew
 have gm:Blk w2 w.heap.size 150 (Za ⟨0,0,0,ZCz,[]⟩ (S_ none 0 0)):=by rw[di];exact(fO.out.alloc _).drew
 have oR:w.heap.size<w1.heap.size:=fO.out.lt;obtain⟨c0,c1,c2,c3,c4,c5,c6,c7,c8⟩:=fU.nine;have fE:=fU.lt;obtain⟨j9,cO,fP⟩:=ZH3 fU gU gm;clear fU gU gm di cA nF nG;generalize w1.heap.size=G at *;have mY:w.heap.size≠G:=ZO;have np:w.heap.size<=G:=ZO;go_wp2_with fail;refine(ZaR 1 ZO ZO _).mono ?_;rintro _ w3 ⟨rfl,cG⟩;rw[show upK 1=false from rfl,show evK 1=true from rfl,show clK 1=false from rfl];obtain⟨HF,HR,HK⟩:=ZH3 (j9.out.ob cG) (fP.out.ob cG) (cO.out.step cG);have jF:=HF.out.lt;clear cG c0 c1 c2 c3 c4 c5 c6 c7 c8 fE;go_wp2_with fail;refine(Zhb (gI.out.kept HK.out.below (ZL _)) (eZ.out) ZO events H.out.events fX [] HT.out).mono ?_;rintro _ w6 ⟨VV,rfl,oI,eK⟩;have mp:=HF.out.ob eK;obtain⟨c0,c1,c2,c3,c4,c5,c6,c7,c8⟩:=mp.nine;have f8:=mp.frozen 8;have ve:=mp.lt;obtain⟨nL,nd⟩:=ZH2 (HR.out.ob eK) (HK.out.step eK);have mK:=HF.out.lt;obtain⟨BB,pk⟩:∃BB,BB=w3.heap.size:=⟨_,rfl⟩;rw[←pk]at oI mK;obtain⟨av,cv,rfl,_⟩:=EvSl.ae oI;obtain⟨rY,ug⟩:=ZH2 mp oI;clear mp eK oI pk;obtain⟨W7,jk⟩:∃W7,W7=w6.setCell ⟨G,8,none⟩ (S_ av events.length cv):=⟨_,rfl⟩;have HF:Hid (Blk W7 G 150 (Za ⟨1,r,0,ZCz,events⟩ (S_ av events.length cv))):=ZH (by rw[jk];exact rY.out.aj 8 _);have HR:Hid (Blk W7 w.heap.size 150 (Za ⟨0,0,0,ZCz,[]⟩ (S_ none 0 0))):=ZH (by rw[jk];exact nL.out.far mY _);have HK:Hid (Kept w.heap.size w W7):=ZH (by rw[jk];exact nd.out.setCell (by show w.heap.size<=G;omega) _)
 have uh:Hid (W7.ownsRow BB 89 12 (S_ av events.length cv) events.length (evCells events)):=ZH (by
  rw[jk]
  exact Zi ug.out (λg hg _=>Below.heap_setCell _ _ _ _ (λe=>by have:=Zb ug.out hg;have e:g=G:=e;omega)))
 have qE:=ZH jk;clear jk
 go_wp2_with (first
  |(refine wpList_load_row rfl 150 (.tmp 4) rfl G rfl 150 (Za ⟨1,r,0,ZCz,events⟩ (S_ av events.length cv)) (0,0) _ (by rw[←qE.out];exact HF.out) underlying150 rfl (ZaD _ _) ?_
    rw[←qE.out])
  |(refine wpList_store_row rfl 150 (.tmp 2) (.tmp 72) rfl w.heap.size (Za ⟨1,r,0,ZCz,events⟩ (S_ av events.length cv)) rfl rfl 150 (Za ⟨0,0,0,ZCz,[]⟩ (S_ none 0 0)) HR.out (ZaD _ _) rfl (Zbt _ _ _ _) ?_))
 refine bodyPost_ret (Zq rfl rfl rfl (run_loadVar_row _ _ _ _ _ _ _ (HR.out.row _) underlying150 rfl (ZaD _ _))) rfl ?_;exact⟨(S_ av events.length cv),rfl,Zj (Zi uh.out (λg hg _=>setRow_other _ _ _ _ (by have:=Zb uh.out hg;omega))) ZO,(HK.out.row (ZL _) _).below⟩
theorem Zrf(h:RecOk f)(dZ:f.kind=2)(hb:Bytes w a n cap (Z2 f)):
  Calls prog 172 #[S_ a n cap] w λr w'=>∃v,r=R_ (.tuple #[Zah f v,B_ true])/\w'.ownsRow w.heap.size 89 12 v f.events.length (evCells f.events)/\Below w.heap.size w w':=by
 have cY:=ZaM h;have cW:=Zbl h;have hr:=h.r;have dJ:=h.upto;have fX:=h.len;have eD:=h.clock;obtain⟨kind,r,upto,clock,events⟩:=f;simp only[]at dZ hr dJ fX eD;subst dZ;have H:=ZH h;clear h;have eo:clock=ZCz:=H.out.clock0 ZM;have dt:upto=0:=H.out.upto0 ZM ZM;subst eo dt;obtain⟨T,hT⟩:∃T,T=(Zd events.length++(Zg events++[])):=⟨_,rfl⟩;have eJ:Z2 ⟨2,r,0,ZCz,events⟩=2::r::T:=by rw[hT];simp[Z2,upK,clK,evK]
 rw[eJ]at hb cY cW;have wh:1<=T.length:=by
  rw[hT];first|(have:=Zac upto;rw[ZI];omega)|(have:=Zac events.length;rw[ZI];omega)|(have:=Zac (clock.get 4);simp only[Zz,ZI];omega)
 have fm:=hb.len;have lu:2+T.length=n:=by
  rw[←fm];simp only[List.length_cons];omega
 have wi:T.length<=60098:=by simp only[List.length_cons]at cW;omega
 obtain⟨b,off,rfl,cH,cB⟩:=hb.pos ZO;have gG:=hb.1;have k0:=cB 0 ZO;have k1:=cB 1 ZO;rw[Nat.add_zero,show(2::r::T).getD 0 0=2 from rfl]at k0;rw[show(2::r::T).getD 1 0=r from rfl]at k1;have dl:=hb.rest (k:=2) ZO;rw[ZPn ZO,show(2::r::T).drop 2=T from rfl]at dl;have eZ:Hid (∀x∈T,x<256):=ZH (λx hx=>cY x (List.mem_cons_of_mem _ (List.mem_cons_of_mem _ hx)));obtain⟨gI,HT⟩:=ZH2 dl hT;have lw:¬((n:Int)<2):=ZO;have vj:(0:Int)<(n:Int):=ZO;have vk:0<n:=ZO;have vm:1<n:=ZO;have lR:(1:Int)<(n:Int):=ZO;have lS:(2:Int)<=(n:Int):=ZO;have lT:(2:Int)<=(cap:Int):=ZO;have oJ:IntKind.i64.wrap (r:Int)=(r:Int):=by rw[IntKind.wrap_i64];omega
 have vN:IntKind.i64.wrap (2:Int)=2:=by rw[IntKind.wrap_i64];omega
 have kf:¬(cap=2):=ZO;obtain⟨w1,dn⟩:∃w1,w1=w.alloc (C_ (Za ⟨0,0,0,ZCz,[]⟩ (S_ none 0 0)) 150):=⟨_,rfl⟩;have fe:Kept w.heap.size w w1:=by rw[dn];exact(ZKr w).alloc _
 have gJ:Blk w1 w.heap.size 150 (Za ⟨0,0,0,ZCz,[]⟩ (S_ none 0 0)):=by rw[dn];exact ZBn _ _ _
 have nu:b<w1.heap.size:=ZR cH fe.le;have nF:w1.cell? ⟨b,off,none⟩=some (.int .u8 ((2:Nat):Int)):=by rw[fe.cells b _ cH];exact k0
 have nG:w1.cell? ⟨b,off+1,none⟩=some (.int .u8 (r:Int)):=by rw[fe.cells b _ cH];exact k1
 obtain⟨da,fO,gk⟩:=ZH3 fe gJ dn;clear hb cY cW fm cB dl hT eJ fe gJ dn k0 k1 eD;go_enter func172,ntmps172;go_wp2_with fail;change Code.wp _ _ _ _ (w.alloc (C_ (Za ⟨0,0,0,ZCz,[]⟩ (S_ none 0 0)) 150));rw[←gk.out];refine ZSi [(0,3),(1,3),(2,0),(3,3),(4,3),(5,3),(6,0),(7,3),(8,3),(9,1),(10,2)] λcu=>?_
 repeat((first|refine ZSa ?_|refine ZSb ?_|refine ZSc ?_);simp only[Act.put,Q_])
 refine ZSd λK hK=>?_
 go_simp;refine hK.out (λw'=>Kept w1.heap.size w1 w') _ _ (λ_ h=>h) (cu.alloc _) (λcA=>?_);clear hK K cu;repeat((first|refine ZSa ?_|refine ZSb ?_|refine ZSc ?_);simp only[Act.put,Q_])
 refine ZSe λK hK=>?_
 go_simp;refine hK.out _ _ ?_;clear hK K;refine ZSf ?_;obtain⟨w2,di⟩:∃w2,w2=(w1.alloc (C_ (Za ⟨2,r,0,ZCz,[]⟩ (S_ none 0 0)) 150)).drew:=⟨_,rfl⟩;change Exit.then _ _ Exit.normal _ ((w1.alloc (C_ (Za ⟨2,r,0,ZCz,[]⟩ (S_ none 0 0)) 150)).drew);rw[←di];have fU:Blk w2 w1.heap.size 150 (Za ⟨2,r,0,ZCz,[]⟩ (S_ none 0 0)):=by rw[di];exact(ZBn _ _ _).drew
 have gU:Kept w.heap.size w w2:=by rw[di];exact(da.out.alloc _).drew
 have gm:Blk w2 w.heap.size 150 (Za ⟨0,0,0,ZCz,[]⟩ (S_ none 0 0)):=by rw[di];exact(fO.out.alloc _).drew
 have oR:w.heap.size<w1.heap.size:=fO.out.lt;obtain⟨c0,c1,c2,c3,c4,c5,c6,c7,c8⟩:=fU.nine;have fE:=fU.lt;obtain⟨j9,cO,fP⟩:=ZH3 fU gU gm;clear fU gU gm di cA nF nG;generalize w1.heap.size=G at *;have mY:w.heap.size≠G:=ZO;have np:w.heap.size<=G:=ZO;go_wp2_with fail;refine(ZaR 2 ZO ZO _).mono ?_;rintro _ w3 ⟨rfl,cG⟩;rw[show upK 2=false from rfl,show evK 2=true from rfl,show clK 2=false from rfl];obtain⟨HF,HR,HK⟩:=ZH3 (j9.out.ob cG) (fP.out.ob cG) (cO.out.step cG);have jF:=HF.out.lt;clear cG c0 c1 c2 c3 c4 c5 c6 c7 c8 fE;go_wp2_with fail;refine(Zhb (gI.out.kept HK.out.below (ZL _)) (eZ.out) ZO events H.out.events fX [] HT.out).mono ?_;rintro _ w6 ⟨VV,rfl,oI,eK⟩;have mp:=HF.out.ob eK;obtain⟨c0,c1,c2,c3,c4,c5,c6,c7,c8⟩:=mp.nine;have f8:=mp.frozen 8;have ve:=mp.lt;obtain⟨nL,nd⟩:=ZH2 (HR.out.ob eK) (HK.out.step eK);have mK:=HF.out.lt;obtain⟨BB,pk⟩:∃BB,BB=w3.heap.size:=⟨_,rfl⟩;rw[←pk]at oI mK;obtain⟨av,cv,rfl,_⟩:=EvSl.ae oI;obtain⟨rY,ug⟩:=ZH2 mp oI;clear mp eK oI pk;obtain⟨W7,jk⟩:∃W7,W7=w6.setCell ⟨G,8,none⟩ (S_ av events.length cv):=⟨_,rfl⟩;have HF:Hid (Blk W7 G 150 (Za ⟨2,r,0,ZCz,events⟩ (S_ av events.length cv))):=ZH (by rw[jk];exact rY.out.aj 8 _);have HR:Hid (Blk W7 w.heap.size 150 (Za ⟨0,0,0,ZCz,[]⟩ (S_ none 0 0))):=ZH (by rw[jk];exact nL.out.far mY _);have HK:Hid (Kept w.heap.size w W7):=ZH (by rw[jk];exact nd.out.setCell (by show w.heap.size<=G;omega) _)
 have uh:Hid (W7.ownsRow BB 89 12 (S_ av events.length cv) events.length (evCells events)):=ZH (by
  rw[jk]
  exact Zi ug.out (λg hg _=>Below.heap_setCell _ _ _ _ (λe=>by have:=Zb ug.out hg;have e:g=G:=e;omega)))
 have qE:=ZH jk;clear jk
 go_wp2_with (first
  |(refine wpList_load_row rfl 150 (.tmp 4) rfl G rfl 150 (Za ⟨2,r,0,ZCz,events⟩ (S_ av events.length cv)) (0,0) _ (by rw[←qE.out];exact HF.out) underlying150 rfl (ZaD _ _) ?_
    rw[←qE.out])
  |(refine wpList_store_row rfl 150 (.tmp 2) (.tmp 72) rfl w.heap.size (Za ⟨2,r,0,ZCz,events⟩ (S_ av events.length cv)) rfl rfl 150 (Za ⟨0,0,0,ZCz,[]⟩ (S_ none 0 0)) HR.out (ZaD _ _) rfl (Zbt _ _ _ _) ?_))
 refine bodyPost_ret (Zq rfl rfl rfl (run_loadVar_row _ _ _ _ _ _ _ (HR.out.row _) underlying150 rfl (ZaD _ _))) rfl ?_;exact⟨(S_ av events.length cv),rfl,Zj (Zi uh.out (λg hg _=>setRow_other _ _ _ _ (by have:=Zb uh.out hg;omega))) ZO,(HK.out.row (ZL _) _).below⟩
theorem Zrj(h:RecOk f)(dZ:f.kind=6)(hb:Bytes w a n cap (Z2 f)):
  Calls prog 172 #[S_ a n cap] w λr w'=>∃v,r=R_ (.tuple #[Zah f v,B_ true])/\w'.ownsRow w.heap.size 89 12 v f.events.length (evCells f.events)/\Below w.heap.size w w':=by
 have cY:=ZaM h;have cW:=Zbl h;have hr:=h.r;have dJ:=h.upto;have fX:=h.len;have eD:=h.clock;obtain⟨kind,r,upto,clock,events⟩:=f;simp only[]at dZ hr dJ fX eD;subst dZ;have H:=ZH h;clear h;have dt:upto=0:=H.out.upto0 ZM ZM;have li:events=[]:=H.out.events0 ZM;subst dt li;obtain⟨T,hT⟩:∃T,T=(Zz clock 5):=⟨_,rfl⟩;have eJ:Z2 ⟨6,r,0,clock,[]⟩=6::r::T:=by rw[hT];simp[Z2,upK,clK,evK]
 rw[eJ]at hb cY cW;have wh:1<=T.length:=by
  rw[hT];first|(have:=Zac upto;rw[ZI];omega)|(have:=Zac events.length;rw[ZI];omega)|(have:=Zac (clock.get 4);simp only[Zz,ZI];omega)
 have fm:=hb.len;have lu:2+T.length=n:=by
  rw[←fm];simp only[List.length_cons];omega
 have wi:T.length<=60098:=by simp only[List.length_cons]at cW;omega
 obtain⟨b,off,rfl,cH,cB⟩:=hb.pos ZO;have gG:=hb.1;have k0:=cB 0 ZO;have k1:=cB 1 ZO;rw[Nat.add_zero,show(6::r::T).getD 0 0=6 from rfl]at k0;rw[show(6::r::T).getD 1 0=r from rfl]at k1;have dl:=hb.rest (k:=2) ZO;rw[ZPn ZO,show(6::r::T).drop 2=T from rfl]at dl;have eZ:Hid (∀x∈T,x<256):=ZH (λx hx=>cY x (List.mem_cons_of_mem _ (List.mem_cons_of_mem _ hx)));obtain⟨gI,HT⟩:=ZH2 dl hT;have lw:¬((n:Int)<2):=ZO;have vj:(0:Int)<(n:Int):=ZO;have vk:0<n:=ZO;have vm:1<n:=ZO;have lR:(1:Int)<(n:Int):=ZO;have lS:(2:Int)<=(n:Int):=ZO;have lT:(2:Int)<=(cap:Int):=ZO;have oJ:IntKind.i64.wrap (r:Int)=(r:Int):=by rw[IntKind.wrap_i64];omega
 have vN:IntKind.i64.wrap (6:Int)=6:=by rw[IntKind.wrap_i64];omega
 have kf:¬(cap=2):=ZO;obtain⟨w1,dn⟩:∃w1,w1=w.alloc (C_ (Za ⟨0,0,0,ZCz,[]⟩ (S_ none 0 0)) 150):=⟨_,rfl⟩;have fe:Kept w.heap.size w w1:=by rw[dn];exact(ZKr w).alloc _
 have gJ:Blk w1 w.heap.size 150 (Za ⟨0,0,0,ZCz,[]⟩ (S_ none 0 0)):=by rw[dn];exact ZBn _ _ _
 have nu:b<w1.heap.size:=ZR cH fe.le;have nF:w1.cell? ⟨b,off,none⟩=some (.int .u8 ((6:Nat):Int)):=by rw[fe.cells b _ cH];exact k0
 have nG:w1.cell? ⟨b,off+1,none⟩=some (.int .u8 (r:Int)):=by rw[fe.cells b _ cH];exact k1
 obtain⟨da,fO,gk⟩:=ZH3 fe gJ dn;clear hb cY cW fm cB dl hT eJ fe gJ dn k0 k1 eD;go_enter func172,ntmps172;go_wp2_with fail;change Code.wp _ _ _ _ (w.alloc (C_ (Za ⟨0,0,0,ZCz,[]⟩ (S_ none 0 0)) 150));rw[←gk.out];refine ZSi [(0,3),(1,3),(2,0),(3,3),(4,3),(5,3),(6,0),(7,3),(8,3),(9,1),(10,2)] λcu=>?_
 repeat((first|refine ZSa ?_|refine ZSb ?_|refine ZSc ?_);simp only[Act.put,Q_])
 refine ZSd λK hK=>?_
 go_simp;refine hK.out (λw'=>Kept w1.heap.size w1 w') _ _ (λ_ h=>h) (cu.alloc _) (λcA=>?_);clear hK K cu;repeat((first|refine ZSa ?_|refine ZSb ?_|refine ZSc ?_);simp only[Act.put,Q_])
 refine ZSe λK hK=>?_
 go_simp;refine hK.out _ _ ?_;clear hK K;refine ZSf ?_;obtain⟨w2,di⟩:∃w2,w2=(w1.alloc (C_ (Za ⟨6,r,0,ZCz,[]⟩ (S_ none 0 0)) 150)).drew:=⟨_,rfl⟩;change Exit.then _ _ Exit.normal _ ((w1.alloc (C_ (Za ⟨6,r,0,ZCz,[]⟩ (S_ none 0 0)) 150)).drew);rw[←di];have fU:Blk w2 w1.heap.size 150 (Za ⟨6,r,0,ZCz,[]⟩ (S_ none 0 0)):=by rw[di];exact(ZBn _ _ _).drew
 have gU:Kept w.heap.size w w2:=by rw[di];exact(da.out.alloc _).drew
 have gm:Blk w2 w.heap.size 150 (Za ⟨0,0,0,ZCz,[]⟩ (S_ none 0 0)):=by rw[di];exact(fO.out.alloc _).drew
 have oR:w.heap.size<w1.heap.size:=fO.out.lt;obtain⟨c0,c1,c2,c3,c4,c5,c6,c7,c8⟩:=fU.nine;have fE:=fU.lt;obtain⟨j9,cO,fP⟩:=ZH3 fU gU gm;clear fU gU gm di cA nF nG;generalize w1.heap.size=G at *;have mY:w.heap.size≠G:=ZO;have np:w.heap.size<=G:=ZO;go_wp2_with fail;refine(ZaR 6 ZO ZO _).mono ?_;rintro _ w3 ⟨rfl,cG⟩;rw[show upK 6=false from rfl,show evK 6=false from rfl,show clK 6=true from rfl];obtain⟨HF,HR,HK⟩:=ZH3 (j9.out.ob cG) (fP.out.ob cG) (cO.out.step cG);have jF:=HF.out.lt;clear cG c0 c1 c2 c3 c4 c5 c6 c7 c8 fE;have eh:=ZH (show Bytes w (some ⟨b,off+2,none⟩) (n-2) (cap-2) (T.drop (Zz clock 0).length) from gI.out);have jQ:n-2<=60098:=ZO;go_wp2_with fail;go_loopw [8,9,10] (λok v0 i wr=>∃(j:Nat) (A:Option Addr) (n' C':Nat),j<=5/\i=I_ J_ j/\ok=B_ true/\v0=S_ A n' C'/\n'<=60098/\Hid (Bytes w A n' C' (T.drop (Zz clock j).length))/\Hid (Blk wr G 150 (Za ⟨6,r,0,Zgm clock j,[]⟩ (S_ none 0 0)))/\Hid (Blk wr w.heap.size 150 (Za ⟨0,0,0,ZCz,[]⟩ (S_ none 0 0)))/\Hid (Kept w.heap.size w wr)) (λ_ _ i _=>5-(intOf i).toNat)
 case atStart=>exact⟨0,_,_,_,ZO,rfl,rfl,rfl,jQ,eh,HF,HR,HK⟩
 case round =>
  skip
  obtain⟨j,A,n',C',hj,rfl,rfl,rfl,D5,ri,yS,zc,tL⟩:=hrel;by_cases rF:j<5
  ·have DZ:(j:Int)<5:=ZO;have wv:(0:Int)<=(j:Int):=ZO;have fM:T.drop (Zz clock j).length=Zd (clock.get j)++T.drop (Zz clock (j+1)).length:=by
    have h:=ZgN clock rF;rw[←HT.out]at h;exact h
   have qx:=ZH (Zfq (ri.out.kept tL.out.below (ZL _)) (λx hx=>eZ.out x (List.mem_of_mem_drop hx)) (clock.get j) (H.out.clock j) _ fM);clear fM;go_wp2_with fail;refine qx.out.mono ?_;rintro _ w4 ⟨A4,n4,C4,rfl,jB,rJ,cS⟩;have gy:=ZH (jB w ri.out);have gg:=yS.out.ob cS;have cj:=gg.cell (3+j);rw[ZgW _ _ _ _ _ _ rF]at cj;have fj:=gg.frozen (3+j);have fE:=gg.lt;have nM:=gg.aj (3+j) (I_ J_ ((clock.get j:Nat):Int));rw[ZgX _ _ _ _ _ _ rF]at nM;obtain⟨io,fN,nI⟩:=ZH3 ((zc.out.ob cS).far (p:=⟨G,3+j,none⟩) mY (I_ J_ ((clock.get j:Nat):Int))) ((tL.out.step cS).setCell (p:=⟨G,3+j,none⟩) np (I_ J_ ((clock.get j:Nat):Int))) nM;clear gg nM cS jB;go_wp2
   go_roundw
   case rel=>exact⟨j+1,_,_,_,ZO,ZN,rfl,rfl,ZO,gy,nI,io,fN⟩
   case measure=>simp[intOf];omega
  ·obtain rfl:j=5:=ZO;have HF:=yS;rw[ZfJ]at HF;have HR:=zc;have HK:=tL
   go_wp2_with (first
    |(refine wpList_load_row rfl 150 (.tmp 4) rfl G rfl 150 (Za ⟨6,r,0,clock,[]⟩ (S_ none 0 0)) (0,0) _ HF.out underlying150 rfl (ZaD _ _) ?_)
    |(refine wpList_store_row rfl 150 (.tmp 2) (.tmp 72) rfl w.heap.size (Za ⟨6,r,0,clock,[]⟩ (S_ none 0 0)) rfl rfl 150 (Za ⟨0,0,0,ZCz,[]⟩ (S_ none 0 0)) HR.out (ZaD _ _) rfl (Zbt _ _ _ _) ?_))
   refine bodyPost_ret (Zq rfl rfl rfl (run_loadVar_row _ _ _ _ _ _ _ (HR.out.row _) underlying150 rfl (ZaD _ _))) rfl ?_;exact⟨(S_ none 0 0),rfl,⟨rfl,.inl ⟨rfl,rfl⟩⟩,(HK.out.row (ZL _) _).below⟩
theorem ZsQ(h:RecOk f)(hb:Bytes w a n cap (Z2 f)):
  Calls prog 172 #[S_ a n cap] w λr w'=>∃v,r=R_ (.tuple #[Zah f v,B_ true])/\w'.ownsRow w.heap.size 89 12 v f.events.length (evCells f.events)/\L_ w w':=by
 have h1:=h.kind1;have h6:=h.kind6;rcases(by omega:f.kind=1∨f.kind=2∨f.kind=3∨f.kind=4∨f.kind=5∨f.kind=6) with hk|hk|hk|hk|hk|hk
 ·exact Zre h hk hb
 ·exact Zrf h hk hb
 ·exact Zrg h hk hb
 ·exact Zrh h hk hb
 ·exact Zri h hk hb
 ·exact Zrj h hk hb
theorem Zi0{P:Program}{fn:Func}{t1 y1 t2 t3:Nat}(h:fn.results=#[.cell t1 y1,.tmp t2,.tmp t3]){tmps:Array Value}{a1:Addr}{v1 v2 v3:Value}
  (p1:tmps.getD t1 undef=P_ (some a1)) (p2:tmps.getD t2 undef=v2) (p3:tmps.getD t3 undef=v3) (l1:(loadVar y1 a1).run P w=.ok v1 w):(results fn tmps).run P w=.ok (.tuple #[v1,v2,v3]) w:=by
 have q1:tmps[t1]?.getD undef=P_ (some a1):=by simpa using p1
 have q2:tmps[t2]?.getD undef=v2:=by simpa using p2
 have q3:tmps[t3]?.getD undef=v3:=by simpa using p3
 simp[results,h,q1,q2,q3,asAddr,l1]
theorem Zby(h:RecOk f):(recBytes f).length<=60200/\(recBytes f).length=(Zd (ZaF (Z2 f)).length).length+(ZaF (Z2 f)).length/\(Zd (ZaF (Z2 f)).length).length<=3/\(ZaF (Z2 f)).length<=60104/\4<=(ZaF (Z2 f)).length:=by
 have h1:=Zbl h;have h2:(ZaF (Z2 f)).length<=60104:=by rw[Zb7];omega
 have h3:=Zab 2 (ZaF (Z2 f)).length ZO;have h4:4<=(ZaF (Z2 f)).length:=by rw[Zb7];omega
 unfold recBytes;rw[ZI];omega
theorem Zrd(h:RecOk f){rest:List Nat}(hb:Bytes w a n cap l)(hs:∀x∈l,x<256)(hn:n<=100000000)(hl:l=recBytes f++rest):
  Calls prog 126 #[S_ a n cap] w λr w'=>∃v,r=R_ (.tuple #[Zah f v,I_ J_ (recBytes f).length,B_ true])/\w'.ownsRow w.heap.size 89 12 v f.events.length (evCells f.events)/\L_ w w':=by
 obtain⟨b1,b2,b3,b4,b5⟩:=Zby h;have fm:=hb.len;have cY:=ZaM h;obtain⟨SL,iw⟩:∃SL,SL=ZaF (Z2 f):=⟨_,rfl⟩;rw[←iw]at b2 b3 b4 b5;have Ad:recBytes f=Zd SL.length++SL:=by unfold recBytes;rw[←iw]
 have eE:(recBytes f).length<=n:=by rw[←fm,hl,ZI];omega
 have hp:=Zac SL.length;have gD:=Zc9 SL.length (SL++rest) ZO;rw[←List.append_assoc,←Ad,←hl]at gD;have cP:=hb.kept ((ZW w.heap.size w).alloc (ZL _) (C_ (Za ⟨0,0,0,ZCz,[]⟩ (S_ none 0 0)) 150)) (ZL _);have ii:=Zc8 cP hs;obtain⟨b,off,rfl,cH,_⟩:=hb.pos ZO;have gG:=hb.1;have eT:=hb.cut (recBytes f).length eE;rw[show l.take (recBytes f).length=recBytes f by rw[hl,List.take_left]]at eT;have jn:=eT.rest (k:=(Zd SL.length).length) ZO;rw[ZPn ZO,show(recBytes f).drop (Zd SL.length).length=SL by rw[Ad,List.drop_left]]at jn;obtain⟨K,hK⟩:∃K,K=(Zd SL.length).length:=⟨_,rfl⟩;obtain⟨L,hL⟩:∃L,L=SL.length:=⟨_,rfl⟩;obtain⟨N,hN⟩:∃N,N=(recBytes f).length:=⟨_,rfl⟩;rw[←hK,←hL]at b2;rw[←hK]at b3 hp;rw[←hL]at b4 b5;rw[←hN]at b1 b2 eE eT;rw[←hN,←hK]at jn;rw[←hK,←hL]at gD;obtain⟨ed,mi,H,jq,mj,K3,AL,jV,df⟩:=ZH9 ((ZKr w).alloc (C_ (Za ⟨0,0,0,ZCz,[]⟩ (S_ none 0 0)) 150)) (ZBn w 150 (Za ⟨0,0,0,ZCz,[]⟩ (S_ none 0 0))) h ii gD eT jn iw b2;obtain⟨gA,lH⟩:=ZH2 cY hN;have jv:IntKind.i64.wrap ((n:Int)-(K:Int))=(n:Int)-(K:Int):=by rw[IntKind.wrap_i64];omega
 have Wg:IntKind.u64.wrap ((n:Int)-(K:Int))=(n:Int)-(K:Int):=by rw[IntKind.wrap_u64];omega
 have vO:IntKind.i64.wrap (L:Int)=(L:Int):=by rw[IntKind.wrap_i64];omega
 have We:IntKind.i64.wrap ((K:Int)+(L:Int))=(N:Int):=by rw[IntKind.wrap_i64];omega
 have zJ:¬((n:Int)-(K:Int)<(L:Int)):=ZO;have NP:(0:Int)<=(N:Int):=ZO;have hNn:(N:Int)<=(cap:Int):=ZO;have uA:(0:Int)<=(K:Int):=ZO;have hKN:(K:Int)<=(N:Int):=ZO;have hKc:(K:Int)<=(cap:Int):=ZO;have hcK:¬(cap=K):=ZO;clear h hb cP hs hl ii gD eT jn iw b2 Ad cY hK hL hN;go_enter func126,ntmps126;go_wp2_with fail;refine jq.out.mono ?_;rintro e w1 hP;obtain⟨rfl,rfl⟩:e=R_ (.tuple #[.int .u64 (L:Nat),I_ J_ (K:Nat),I_ J_ ((0:Nat):Int)])/\_=w1:=by
  have gB:=hP;unfold Za0 at gB;rw[mj.out]at gB;exact gB
 clear hP;go_wp2_with fail;have vE:∀x∈SL,x<256:=λx hx=>by
  rw[jV.out]at hx;exact Zfs gA.out x hx
 refine(Zjj (AL.out.kept ed.out.below (ZL _)) vE ZO).mono ?_;rintro _ w1 hP;rcases hP with ⟨_,v1,rfl,eG,cz⟩|⟨gY,_⟩
 rotate_left 1
 ·rw[jV.out]at gY;exact absurd (Zha _) gY
 have pA:SL.take (SL.length-4)=Z2 f:=by
  rw[jV.out,Zb7,show ∀m:Nat,m+4-4=m from λm=>by omega];unfold ZaF;rw[List.take_left]
 rw[pA]at eG;obtain⟨a1,BE,rfl,kS⟩:=Bytes.ae eG;have da:=ZH (ed.out.step cz);have gJ:=mi.out.ob cz;obtain⟨tY,lZ,fO⟩:=ZH3 gJ.lt kS gJ;clear eG kS gJ cz pA vE;go_wp2_with fail;refine(ZsQ H.out lZ.out).mono ?_;rintro _ w2 ⟨v2,rfl,dV,cD⟩;obtain⟨a2,dy,rfl,ju⟩:=EvSl.ae dV;have cX:=da.out.step cD;have gm:=fO.out.ob cD;obtain⟨cU,fk,iI,i8,MZ⟩:=ZH5 (cX.alloc (C_ (Za f (S_ a2 f.events.length dy)) 150)) (gm.alloc (C_ (Za f (S_ a2 f.events.length dy)) 150)) (ZBn w2 150 (Za f (S_ a2 f.events.length dy))) (ju.below ((ZW w2.heap.size w2).alloc (ZL _) (C_ (Za f (S_ a2 f.events.length dy)) 150))) (dV.alloc (C_ (Za f (S_ a2 f.events.length dy)) 150));have VG:w.heap.size<w2.heap.size:=gm.lt;clear dV ju cX gm cD;go_wp2_with fail;refine(ZkG H.out i8.out).mono ?_;rintro _ w4 ⟨v4,rfl,iO,cS⟩;obtain⟨a4,ja,rfl,sL⟩:=Bytes.ae iO;have dM:=cU.out.step cS;obtain⟨gy,dw,tV,gS,jA,ue⟩:=ZH6 (K3.out.kept dM.below (ZL _)) dM sL (fk.out.ob cS) (iI.out.ob cS) (Ze MZ.out cS);clear iO sL dM cS;go_wp2_with fail;refine(ZjA tV.out gy.out).mono ?_;rintro _ w5 ⟨rfl,dH⟩;obtain⟨fN,io,qb,uf⟩:=ZH4 (dw.out.step dH) (gS.out.ob dH) (jA.out.ob dH) (Ze ue.out dH);clear dH
 go_wp2_with (first
  |(refine wpList_load_row rfl 150 (.tmp 11) rfl w2.heap.size rfl 150 (Za f (S_ a2 f.events.length dy)) (0,0) _ qb.out underlying150 rfl (ZaD _ _) ?_)
  |(refine wpList_store_row rfl 150 (.tmp 2) (.tmp 70) rfl w.heap.size (Za f (S_ a2 f.events.length dy)) rfl rfl 150 (Za ⟨0,0,0,ZCz,[]⟩ (S_ none 0 0)) io.out (ZaD _ _) rfl (Zbt _ _ _ _) ?_))
 refine bodyPost_ret (Zi0 rfl rfl rfl rfl (run_loadVar_row _ _ _ _ _ _ _ (io.out.row _) underlying150 rfl (ZaD _ _))) rfl ?_;rw[←lH.out];refine⟨_,rfl,Zj (Zi uf.out (λg hg _=>setRow_other _ _ _ _ (by have:=Zb uf.out hg;have:=tY.out;omega))) da.out.le,(fN.out.row (ZL _) _).below⟩
theorem ZpY(L m:Nat)(hL:L<1000000)(hm:m<(Zd L).length):Zdv (((Zd L).take m).take 10)=(0,0,2):=by
 have hlen:=Zab 2 L ZO;have ie:=Zm5 L;have e:((Zd L).take m).take 10=(Zd L).take m:=ZU (by rw[ZV];omega)
 rw[e,Zft (λj hj=>by
  rw[ZV]at hj;rw[Zih ZO]
  exact ie j ZO),ZPn (by rw[ZV];omega)]
theorem Zm8(h:RecOk f){m:Nat}(hm:m<(recBytes f).length)(hb:Bytes w a n cap ((recBytes f).take m))(hs:∀x∈recBytes f,x<256):
  Calls prog 126 #[S_ a n cap] w (Zx (.tuple #[Zah ⟨0,0,0,ZCz,[]⟩ (S_ none 0 0),I_ J_ 0,B_ false]) w):=by
 obtain⟨b1,b2,b3,b4,b5⟩:=Zby h;have fm:=hb.len;rw[ZV,Nat.min_eq_left ZO]at fm;subst fm;obtain⟨SL,iw⟩:∃SL,SL=ZaF (Z2 f):=⟨_,rfl⟩;rw[←iw]at b2 b3 b4 b5;have Ad:recBytes f=Zd SL.length++SL:=by unfold recBytes;rw[←iw]
 have cP:=hb.kept ((ZW w.heap.size w).alloc (ZL _) (C_ (Za ⟨0,0,0,ZCz,[]⟩ (S_ none 0 0)) 150)) (ZL _);have ii:=Zc8 cP (λx hx=>hs x (List.mem_of_mem_take hx));have cR:=(ZKr w).alloc (C_ (Za ⟨0,0,0,ZCz,[]⟩ (S_ none 0 0)) 150);have nb:=ZBn w 150 (Za ⟨0,0,0,ZCz,[]⟩ (S_ none 0 0));obtain⟨jq,ed,mi⟩:=ZH3 ii cR nb;rcases Nat.lt_or_ge m (Zd SL.length).length with cI|lr
 focus
  have gD:Zdv (((recBytes f).take m).take 10)=(0,0,2):=by
   have e:(recBytes f).take m=(Zd SL.length).take m:=by
    rw[Ad,List.take_append_of_le_length ZO]
   rw[e];exact ZpY SL.length m ZO cI
  have mj:=ZH gD;clear h hb cP hs ii cR nb iw Ad gD b1 b2 b3 b4 b5;go_enter func126,ntmps126;go_wp2_with fail;refine jq.out.mono ?_;rintro e w1 hP;obtain⟨rfl,rfl⟩:e=R_ (.tuple #[.int .u64 ((0:Nat):Int),I_ J_ ((0:Nat):Int),I_ J_ ((2:Nat):Int)])/\_=w1:=by
   have gB:=hP;unfold Za0 at gB;rw[mj.out]at gB;exact gB
 rotate_left
 focus
  have gD:Zdv (((recBytes f).take m).take 10)=(SL.length,(Zd SL.length).length,0):=by
   have e:(recBytes f).take m=Zd SL.length++SL.take (m-(Zd SL.length).length):=by
    rw[Ad,List.take_append,ZU lr]
   rw[e];exact Zc9 SL.length _ ZO
  have mj:=ZH gD;clear h hb cP hs ii cR nb iw Ad gD;obtain⟨K,hK⟩:∃K,K=(Zd SL.length).length:=⟨_,rfl⟩;obtain⟨L,hL⟩:∃L,L=SL.length:=⟨_,rfl⟩;rw[←hL]at mj hK b2 b3 b4 b5 lr;rw[←hK]at mj b2 b3 lr;have jv:IntKind.i64.wrap ((m:Int)-(K:Int))=(m:Int)-(K:Int):=by rw[IntKind.wrap_i64];omega
  have Wg:IntKind.u64.wrap ((m:Int)-(K:Int))=(m:Int)-(K:Int):=by rw[IntKind.wrap_u64];omega
  have zJ:((m:Int)-(K:Int)<(L:Int)):=ZO;clear hK hL b1 b2 b3 b4 b5 hm;go_enter func126,ntmps126;go_wp2_with fail;refine jq.out.mono ?_;rintro e w1 hP;obtain⟨rfl,rfl⟩:e=R_ (.tuple #[.int .u64 (L:Int),I_ J_ (K:Int),I_ J_ ((0:Nat):Int)])/\_=w1:=by
   have gB:=hP;unfold Za0 at gB;rw[mj.out]at gB;exact gB
 rotate_left
 all_goals
  clear hP
  go_wp2_with (first
   |(refine Zat rfl 150 _ rfl (Za ⟨0,0,0,ZCz,[]⟩ (S_ none 0 0)) ZK ?_)
   |(refine wpList_store_row rfl 150 (.tmp 2) (.tmp 31) rfl w.heap.size (Za ⟨0,0,0,ZCz,[]⟩ (S_ none 0 0)) rfl rfl 150 (Za ⟨0,0,0,ZCz,[]⟩ (S_ none 0 0)) mi.out (ZaD _ _) rfl (Zbt _ _ _ _) ?_))
  refine bodyPost_ret (Zi0 rfl rfl rfl rfl (run_loadVar_row _ _ _ _ _ _ _ (mi.out.row _) underlying150 rfl (ZaD _ _))) rfl ?_;exact⟨rfl,(ed.out.row (ZL _) _).below⟩
theorem ZtY:(prog.info? 150).map (λi=>(i.zero,i.size,i.bytes))=some (some (.agg (Za ⟨0,0,0,ZCz,[]⟩ (S_ none 0 0))),9,88):=ZK
theorem Zn8{P:Program}{a:Act}{Q:Exit->Act->World->Prop}{c R:Code}(l:Nat)(J:Act->World->Prop)(μ : Act->World->Nat)(hf:findLabel c l=some (Code.seq Code.skip R))
  (Jh:∀a w,J a w->R.wp P (Exit.jump l (λa' w'=>J a' w' /\ μ a' w' < μ a w) Q) a w)
  (first:(∀a w,J a w->R.wp P (Exit.jump l J Q) a w)->c.wp P (Exit.jump l J Q) a w):(Code.scope c).wp P Q a w :=
 wp_scope_jumps l J μ hf (first λa w h=>Code.wp_mono (λe a w q=>by
  cases e <;> first|exact q|exact⟨q.1,q.2.1⟩) (Jh a w h)) λa w h=>wp_seq (wp_skip (Jh a w h))
def recCells(l:List (Frm×Value)):List Value:=l.flatMap λp=>(Za p.1 p.2).toList
theorem Zl0(l:List (Frm×Value))(f:Frm)(v:Value):recCells (l++[(f,v)])=recCells l++(Za f v).toList:=by
 simp[recCells]
def recsBytes(l:List Frm):List Nat:=l.flatMap recBytes
theorem ZkH{l:List Frm}{q:Nat}(h:l[q]? = some f):recsBytes (l.take (q+1))=recsBytes (l.take q)++recBytes f:=by
 rw[List.take_add_one,h];simp[recsBytes]
theorem Zdg(h:RecOk f):∀x∈recBytes f,x<256:=by
 intro x hx;unfold recBytes at hx;rw[List.mem_append]at hx;rcases hx with hx|hx
 ·exact ZaH _ x hx
 ·exact Zfs (ZaM h) x hx
structure RecRows(base:Nat)(w:World)(v:Value)(rs:List Frm)(ps:List (Frm×Value)):Prop where
 is_:ps.map (·.1)=rs
 row:w.ownsRow base 150 9 v rs.length (recCells ps)
 evs:∀p∈ps,w.ownsRow base 89 12 p.2 p.1.events.length (evCells p.1.events)
theorem RecRows.below{base:Nat}{w w':World}{v:Value}{rs:List Frm}{ps:List (Frm×Value)}(h:RecRows base w v rs ps)(hb:L_ w w'):RecRows base w' v rs ps :=
 ⟨h.is_,Ze h.row hb,λp hp=>Ze (h.evs p hp) hb⟩
theorem Zh3{w':World}{B B':Nat}{e e':TypeId}{sz PL n':Nat}{v v':Value}{xs PT:List Value}(h:w.ownsRow B e sz v n xs)(h':w.ownsRow B' e' PL v' n' PT)(dR:e≠e')(hg:w.grownBy w' v.ownBlock):w'.ownsRow B' e' PL v' n' PT :=
 Zi h' (λg ll hl=>hg.block g hl (λe=>by
  rcases h'.2 with ⟨rfl,_⟩|⟨g2,cap,cur,rfl,_,hb,_⟩
  ·cases ll
  ·injection ll with ll
   subst ll
   exact Zr h (show Blk w g2 e' cur from hb) dR e.symm))
theorem Zo8(f:Frm)(a:Option Addr)(n c:Nat):∀u∈(Za f (S_ a n c)).toList,u.oneCell'=true:=by
 intro v hv;simp at hv;rcases hv with rfl|rfl|rfl|rfl|rfl|rfl|rfl|rfl|rfl <;> rfl
theorem Zua{b o:Nat}(hb:Bytes w (some ⟨b,o,none⟩) n cap l)(hn:n<=100000000)(rs:List Frm)(i7:∀f∈rs,RecOk f)(kT:rs.length<=1000000)(f0:Frm)(h0:RecOk f0)(m:Nat)(hm:m<(recBytes f0).length)(hl:l=recsBytes rs++(recBytes f0).take m):
  Calls prog 82 #[S_ (some ⟨b,o,none⟩) n cap] w λr w'=>∃v ps,r=R_ (.tuple #[v,I_ J_ (recsBytes rs).length])/\RecRows w.heap.size w' v rs ps/\L_ w w':=by
 obtain⟨i0,hi,dd,cV,dc⟩:=info_parts ZtY;have fm:=hb.len;have gG:=hb.1;obtain⟨HB,gI,HL,H0⟩:=ZH4 hb i7 hl h0;have F9:(recsBytes rs).length<=n:=by rw[←fm,hl,ZI];omega
 clear hb i7 hl h0 fm;go_enter func82,ntmps82;go_wp2_with fail;obtain⟨J,hJ⟩:∃J:Act->World->Prop,J=λa' w'=>∃(j:Nat) (ps:List (Frm×Value)) (v u6 u7 u8 u9 Jj Jk Jl Jm Jn Jo Jp Jq Jr Js Jt Ju Jv Jw Jx Jy Jz:Value),j<=rs.length/\a'={ tmps:=#[S_ (some ⟨b,o,none⟩) n cap,undef,S_ none 0 0,I_ J_ 0,v,I_ J_ ((recsBytes (rs.take j)).length:Int),u6,u7,u8,u9,Jj,Jk,Jl,Jm,Jn,Jo,Jp,Jq,Jr,Js,Jt,Ju,Jv,Jw,Jx,Jy,Jz],defers:=[] }/\Hid (RecRows w.heap.size w' v (rs.take j) ps)/\Hid (K_ w w'):=⟨_,rfl⟩
 have HJ:=ZH hJ;clear hJ;refine Zn8 0 J (λa' _=>n-(intOf (a'.tmps.getD 5 undef)).toNat) rfl ?_ ?_
 ·intro a' w' wv;rw[HJ.out]at wv;obtain⟨j,ps,v,u6,u7,u8,u9,Jj,Jk,Jl,Jm,Jn,Jo,Jp,Jq,Jr,Js,Jt,Ju,Jv,Jw,Jx,Jy,Jz,hj,rfl,HR,HK⟩:=wv;obtain⟨AT,xE⟩:∃AT,AT=(recsBytes (rs.take j)).length:=⟨_,rfl⟩;have ev:recsBytes rs=recsBytes (rs.take j)++recsBytes (rs.drop j):=by
   unfold recsBytes;rw[←List.flatMap_append,List.take_append_drop]
  have hATn:AT<=(recsBytes rs).length:=by rw[xE,ev,ZI];omega
  rw[←xE];have ly:=HB.out.rest (k:=AT) ZO;have hATI:(AT:Int)<=(n:Int):=ZO;have hATC:(AT:Int)<=(cap:Int):=ZO;have hAT0:(0:Int)<=(AT:Int):=ZO;by_cases GT:j<rs.length
  ·obtain⟨f,hf⟩:∃f,rs[j]? = some f:=⟨_,ZX GT⟩;have em:=gI.out f (ZY hf);have l5:rs.drop j=f::rs.drop (j+1):=by
    rw[List.drop_eq_getElem_cons GT];congr 1;rw[ZX GT]at hf;injection hf
   obtain⟨RT,NT⟩:∃RT,RT=recsBytes (rs.drop (j+1))++(recBytes f0).take m:=⟨_,rfl⟩;have R9:l.drop AT=recBytes f++RT:=by
    rw[HL.out,ev,xE,List.append_assoc,List.drop_left,l5,NT];show recBytes f++recsBytes (rs.drop (j+1))++_=_
    rw[List.append_assoc]
   have hlen:=Zby em;have cI:AT+(recBytes f).length<=(recsBytes rs).length:=by
    rw[xE,ev,ZI,l5];show _<=_+(recBytes f++recsBytes (rs.drop (j+1))).length
    rw[ZI];omega
   have kf:¬(cap=AT):=ZO;rw[ZPn kf,R9]at ly;have cY:∀x∈recBytes f++RT,x<256:=λx hx=>by
    rw[List.mem_append]at hx;rcases hx with hx|hx
    ·exact Zdg em x hx
    ·rw[NT,List.mem_append]at hx;rcases hx with hx|hx
     ·obtain⟨g,hg,hx⟩:=List.mem_flatMap.1 hx;exact Zdg (gI.out g (List.mem_of_mem_drop hg)) x hx
     ·exact Zdg H0.out x (List.mem_of_mem_take hx)
   have sA:=Zrd em (ly.kept HK.out.below (ZL _)) cY ZO rfl;have eP:=ZkH hf;have ii:rs.take (j+1)=rs.take j++[f]:=by rw[List.take_add_one,hf];rfl
   obtain⟨FL,NH⟩:∃FL,FL=(recBytes f).length:=⟨_,rfl⟩;rw[←NH]at sA cI;have hFL1:1<=FL:=ZO;have We:IntKind.i64.wrap ((AT:Int)+(FL:Int))=((AT+FL:Nat):Int):=by rw[IntKind.wrap_i64];omega
   have uz:AT+FL=(recsBytes (rs.take (j+1))).length:=by rw[eP,ZI,←xE,←NH]
   obtain⟨HF,jq,AC⟩:=ZH3 sA ii uz;clear sA ii uz eP ly cY R9 NT l5 hf ev xE em hlen NH;go_wp2_with fail;refine HF.out.mono ?_;rintro _ w3 ⟨v3,rfl,Ps,cG⟩;obtain⟨a3,dK,rfl,_⟩:=EvSl.ae Ps;have cT:=HR.out.row;obtain⟨M,hM⟩:∃M,M=(rs.take j).length:=⟨_,rfl⟩;have uB:M<=1000000:=by rw[hM,ZV];omega
   rw[←hM]at cT;have IY:∃av cv,v=S_ av M cv:=by
    rcases cT.2 with ⟨h1,h2⟩|⟨g,cp,_,h1,_⟩
    ·subst h2;exact⟨none,0,h1⟩
    ·exact⟨_,cp,h1⟩
   obtain⟨av,cv,rfl⟩:=IY;have cS:L_ w' ((w3.alloc (C_ (Za f (S_ a3 f.events.length dK)) 150)).alloc (C_ (Za f (S_ a3 f.events.length dK)) 150)):=((Kept.start cG).alloc _ |>.alloc _).below;have ld:=ZH (Ze cT cS);have dM:=((HK.out.step cG).alloc (C_ (Za f (S_ a3 f.events.length dK)) 150)).alloc (C_ (Za f (S_ a3 f.events.length dK)) 150);have pK:=dM.le;have ue:=ZH (Zj ((Ps.alloc (C_ (Za f (S_ a3 f.events.length dK)) 150)).alloc (C_ (Za f (S_ a3 f.events.length dK)) 150)) HK.out.le);have iT:Hid (Reads ((w3.alloc (C_ (Za f (S_ a3 f.events.length dK)) 150)).alloc (C_ (Za f (S_ a3 f.events.length dK)) 150)) ((w3.alloc (C_ (Za f (S_ a3 f.events.length dK)) 150)).alloc (C_ (Za f (S_ a3 f.events.length dK)) 150)).heap.size 9 (some ⟨w3.heap.size+1,0,none⟩) 1 (Za f (S_ a3 f.events.length dK)).toList):=ZH (Reads.aA (Zag w3 _ _ _) rfl);obtain⟨dw,gy,HM⟩:=ZH3 dM cS hM;clear cT dM cS cG Ps hM
   go_wp2_with (first
    |(at_builtin
      refine Zc _ rfl (.tmp 18) (.tmp 20) _ rfl w.heap.size 150 i0 _ 9 88 underlying164 hi dd cV dc rfl ZO (S_ av M cv) M (recCells ps) rfl ld.out _ (some ⟨w3.heap.size+1,0,none⟩) 1 1 (Za f (S_ a3 f.events.length dK)).toList rfl iT.out (Zo8 _ _ _ _) ZF ZO pK ?_;intro v7 w7 cF db _;have mE:∀p∈ps++[(f,Value.slice a3 f.events.length dK)],w7.ownsRow w.heap.size 89 12 p.2 p.1.events.length (evCells p.1.events):=λp hp=>by
       rw[List.mem_append]at hp;rcases hp with hp|hp
       ·exact Zh3 ld.out (Ze (HR.out.evs p hp) gy.out) ZJ db
       ·have hp:p=(f,Value.slice a3 f.events.length dK):=by simpa using hp
        rw[hp];exact Zh3 ld.out ue.out ZJ db
      have mO:RecRows w.heap.size w7 v7 (rs.take (j+1)) (ps++[(f,Value.slice a3 f.events.length dK)]):=⟨by rw[jq.out,List.map_append,HR.out.is_];rfl,by
       rw[jq.out,ZI,←HM.out,Zl0]
       exact cF,mE⟩
      have fx:Hid (K_ w w7):=ZH (⟨dw.out.below.grown db dw.out.le (λg hg=>(Zb ld.out hg).1),ZT dw.out.le db.size⟩);have xr:=ZH mO
      clear cF db mE mO ))
   go_step3
   refine⟨rfl,?_,?_⟩
   ·rw[HJ.out];exact⟨j+1,ps++[(f,Value.slice a3 f.events.length dK)],_,_,_,_,_,_,_,_,_,_,_,_,_,_,_,_,_,_,_,_,_,_,ZO,by rw[←AC.out,Int.natCast_add],xr,fx⟩
   ·simp[intOf];omega
  ·obtain rfl:j=rs.length:=ZO;have IM:l.drop AT=(recBytes f0).take m:=by
    rw[HL.out,xE,List.take_length,List.drop_left]
   have Iv:=Zdg H0.out;rw[IM]at ly;have uz:AT=(recsBytes rs).length:=by rw[xE,List.take_length]
   have MT:Hid (rs.take rs.length=rs):=ZH (List.take_length);obtain⟨AC,lH⟩:=ZH2 uz (Zm8 H0.out hm (ly.kept HK.out.below (ZL _)) Iv);clear ly IM xE uz Iv ev;by_cases Oa:cap=AT;focus
    have tS:=lH.out;rw[ZPp Oa,show cap-AT=0 by omega,show n-AT=0 by omega]at tS;have ta:=ZH tS;subst Oa
   rotate_left
   focus
    have tS:=lH.out;rw[ZPn Oa]at tS;have ta:=ZH tS
   rotate_left
   all_goals
    go_wp2_with fail;refine ta.out.mono ?_;rintro _ w3 ⟨rfl,cG⟩
    go_wp2_with (first
     |(refine ZS rfl 150 rfl (Za ⟨0,0,0,ZCz,[]⟩ (S_ none 0 0)) ZK ?_)
     |(refine wpList_store_row rfl 150 (.tmp 6) (.tmp 14) rfl w3.heap.size (Za ⟨0,0,0,ZCz,[]⟩ (S_ none 0 0)) rfl rfl 150 (Za ⟨0,0,0,ZCz,[]⟩ (S_ none 0 0)) (ZBn _ _ _) (ZaD _ _) rfl (Zbt _ _ _ _) ?_
       have lX:Hid (L_ w' ((w3.alloc (C_ (Za ⟨0,0,0,ZCz,[]⟩ (S_ none 0 0)) 150)).setRow w3.heap.size (Za ⟨0,0,0,ZCz,[]⟩ (S_ none 0 0)))):=ZH (((Kept.start cG).alloc _ |>.row cG.size _).below)
       generalize (w3.alloc (C_ (Za ⟨0,0,0,ZCz,[]⟩ (S_ none 0 0)) 150)).setRow w3.heap.size (Za ⟨0,0,0,ZCz,[]⟩ (S_ none 0 0))=W5 at *))
    simp only[Exit.jump];go_ret2
    have hR:=HR.out;rw[MT.out]at hR;rw[←AC.out];exact⟨_,ps,rfl,hR.below lX.out,(HK.out.trans ⟨lX.out,lX.out.size⟩ HK.out.le).below⟩
 ·intro hp;go_wp2_with fail;go_step3
  have e0:((recsBytes (rs.take 0)).length:Int)=0:=by simp[recsBytes]
  rename_i hK;refine hK _ _ (hp _ _ ?_);rw[HJ.out];exact⟨0,[],_,_,_,_,_,_,_,_,_,_,_,_,_,_,_,_,_,_,_,_,_,_,Nat.zero_le _,by rw[e0],ZH ⟨rfl,⟨rfl,.inl ⟨rfl,rfl⟩⟩,λp hp=>by simp at hp⟩,ZH (ZKr w)⟩
structure Fl where
 to:Nat
 bytes:List Nat
def flCells(l:List (Nat×Value)):List Value:=l.flatMap λp=>[I_ J_ (p.1:Int),p.2]
theorem ZeR:∀l:List (Nat×Value),(flCells l).length=l.length*2
 | []=>rfl
 |p::l=>by
  have h:=ZeR l;have e:flCells (p::l)=[I_ J_ (p.1:Int),p.2]++flCells l:=rfl;rw[e,ZI,h];simp;omega
structure LinkAt(own:Own)(t:Nat)(w:World)(p:Nat)(fs:List Fl):Prop where
 mine:own p=t
 ex:∃v ps,Blk w p 127 #[v]/\w.ownsRow 0 136 2 v fs.length (flCells ps)/\(∀g,v.ownBlock=some g->own g=t)/\ps.length=fs.length /\
  ∀(i:Nat) (f:Fl),fs[i]? = some f->∃x,ps[i]? = some (f.to,x)/\RowB own 0 w x f.bytes
theorem LinkAt.upd{T:Nat->Prop}{own own':Own}{w w':World}{t p:Nat}{fs:List Fl}(h:LinkAt own t w p fs)(hu:Upd T own own' w w')(ht:¬T t)(h0:¬T 0):LinkAt own' t w' p fs:=by
 obtain⟨h1,v,ps,h2,h3,h4,h5,h6⟩:=h;refine⟨by rw[hu.old p h2.lt];exact h1,v,ps,h2.upd hu (by rw[h1];exact ht),Zi h3 (λg hg hl=>hu.same g hl (by rw[h4 g hg];exact ht)),λg hg=>by rw[hu.old g (Zb h3 hg).2];exact h4 g hg,h5,λi f hf=>?_⟩;obtain⟨x,hx,hr⟩:=h6 i f hf;exact⟨x,hx,hr.upd hu h0⟩
theorem Zor:(prog.info? 136).map (λi=>(i.zero,i.size,i.bytes))=some (some (.agg #[I_ J_ 0,S_ none 0 0]),2,32):=ZK
theorem Zsl{own:Own}(hf:Fresh own w):Calls prog 29 #[] w λr w'=>∃own',r=R_ (P_ (some ⟨w.heap.size,0,none⟩))/\LinkAt own' t w' w.heap.size []/\Upd (· = t) own own' w w':=by
 have HF:=ZH hf;clear hf;go_enter func29,ntmps29;go_wp2
 go_ret;have hk:=(ZKr w).alloc (C_ #[S_ none 0 0] 127);refine⟨own.at_ w.heap.size t,rfl,⟨by unfold Own.at_;simp,S_ none 0 0,[],ZBn _ _ _,⟨rfl,.inl ⟨rfl,rfl⟩⟩,λg hg=>(by cases hg),rfl,λi f hf=>(by simp at hf)⟩,(ZUb (T:=(· = t)) hk.below HF.out).az (ZL _) ZM t⟩
theorem Zsk{own:Own}{fs:List Fl}(h:LinkAt own t w p fs):Calls prog 146 #[P_ (some ⟨p,0,none⟩)] w (Zx (I_ J_ fs.length) w):=by
 obtain⟨_,v,ps,hb,hr,_⟩:=h;have hv:∃a cap,v=S_ a fs.length cap:=by
  rcases hr.2 with ⟨h1,h2⟩|⟨g,cp,_,h1,_⟩
  ·exact⟨none,0,by rw[h2];exact h1⟩
  ·exact⟨_,cp,h1⟩
 obtain⟨a,cap,rfl⟩:=hv;have c0:=hb.cell 0;simp only[ZD,ZE]at c0;have cI:=hb.lt;clear hb hr;go_enter func146,ntmps146;go_wp2
 go_ret;exact⟨rfl,ZW _ _⟩
theorem Zld{own:Own}{fs:List Fl}(h:LinkAt own t w p fs)(hf:Fresh own w)(kN:fs.length<=1000000)(IL:t≠0)(to:Nat)(hb:Bytes w a n cap l)(hn:n<=1000000000):
  Calls prog 72 #[P_ (some ⟨p,0,none⟩),I_ J_ to,S_ a n cap] w λr w'=>r=R_ (.tuple #[])/\∃own',LinkAt own' t w' p (fs++[⟨to,l⟩])/\Upd (· = t) own own' w w':=by
 obtain⟨hm,v,ps,jC,hr,yI,gx,gP⟩:=h;have hv:∃av cv,v=S_ av fs.length cv:=by
  rcases hr.2 with ⟨h1,h2⟩|⟨g,cp,_,h1,_⟩
  ·exact⟨none,0,by rw[h2];exact h1⟩
  ·exact⟨_,cp,h1⟩
 obtain⟨av,cv,rfl⟩:=hv;obtain⟨i0,hi,dd,cV,dc⟩:=info_parts Zor;have c0:=jC.cell 0;simp only[ZD,ZE]at c0;have cI:=jC.lt;obtain⟨HB,HM,rU,HR,Bn,mX,iS,HF⟩:=ZH8 (hb.kept (ZW w.heap.size w).drew (ZL _)) hm jC hr yI gx gP hf;clear hm jC hr yI gx gP hb hf;obtain⟨M,hM⟩:∃M,M=fs.length:=⟨_,rfl⟩;rw[←hM]at HR rU Bn c0 kN;have pZ:=ZH hM;clear hM;go_enter func72,ntmps72;go_wp2_with fail;refine ZSi [(0,3),(1,3),(2,0),(3,3),(4,0),(5,3),(6,3),(7,1),(8,3),(9,1),(10,2),(11,3),(12,3),(13,2)] λcu=>?_
 repeat((first|refine ZSa ?_|refine ZSb ?_|refine ZSc ?_);simp only[Act.put,Q_])
 refine ZSd λK hK=>?_
 go_simp;refine(ZeO HB.out hn).mono ?_;rintro _ w2 ⟨v2,rfl,dV,cD⟩;have cX:=cu.step cD;obtain⟨a2,dy,rfl,_⟩:=Bytes.ae dV;obtain⟨fP,cO⟩:=ZH2 dV cX;refine hK.out (λw'=>K_ w2 w') _ _ (λ_ h=>cX.trans h cX.le) (ZKr w2) (λcA=>?_);clear hK K cu cD cX dV;repeat((first|refine ZSa ?_|refine ZSb ?_|refine ZSc ?_);simp only[Act.put,Q_])
 refine ZSd λK hK=>?_
 go_simp;have FV:=ZBn w2 136 #[I_ J_ (to:Int),S_ a2 l.length dy];have iT:Hid (Reads (w2.alloc (C_ #[I_ J_ (to:Int),S_ a2 l.length dy] 136)) (w2.alloc (C_ #[I_ J_ (to:Int),S_ a2 l.length dy] 136)).heap.size 2 (some ⟨w2.heap.size,0,none⟩) 1 [I_ J_ (to:Int),S_ a2 l.length dy]):=ZH (Reads.aA FV rfl)
 have gn:Hid (∀u∈[Value.int .i64 (to:Int),S_ a2 l.length dy],u.oneCell'=true):=ZH (λu hu=>by
  simp at hu
  rcases hu with rfl|rfl <;> rfl)
 refine hK.out (λw'=>K_ w2 w') _ _ (λ_ h=>h) (cA.alloc _) (λcu=>?_);clear hK K cA FV;repeat((first|refine ZSa ?_|refine ZSb ?_|refine ZSc ?_);simp only[Act.put,Q_])
 refine ZSe λK hK=>?_
 have oP:L_ w (w2.alloc (C_ #[I_ J_ (to:Int),S_ a2 l.length dy] 136)):=(cO.out.alloc _).below;have D6:=Ze HR.out oP;refine Za9 _ (.tmp 10) (.tmp 15) _ rfl 0 136 i0 _ 2 32 underlying125 hi dd cV dc rfl ZO (S_ av M cv) M (flCells ps) rfl D6 _ (some ⟨w2.heap.size,0,none⟩) 1 1 [I_ J_ (to:Int),S_ a2 l.length dy] rfl iT.out gn.out ZF ZO (Nat.zero_le _) ?_;intro v3 w3 dW i5 oe;have cN:Upd (· = t) own own w (w2.alloc (C_ #[I_ J_ (to:Int),S_ a2 l.length dy] 136)):=ZUb (T:=(· = t)) oP HF.out;have de:=cN.grow (t:=t) rfl Bn.out (λg hg=>(Zb dW hg).2) i5 oe;have fK:=(rU.out.ob oP).grown i5 (Ne.symm (Zr HR.out rU.out ZJ));obtain⟨cK,dQ⟩:∃cK,cK=own.put v3 t:=⟨_,rfl⟩;rw[←dQ]at de;have F7:cK p=t:=by rw[de.1.old p cI];exact HM.out
 have IX:∀g,v3.ownBlock=some g->cK g=t:=λg hg=>by
  rw[dQ];unfold Own.put;rw[ZPp hg]
 have nS:RowB cK 0 w3 (S_ a2 l.length dy) l:=⟨Zj (Zh3 D6 (fP.out.alloc (C_ #[I_ J_ (to:Int),S_ a2 l.length dy] 136)) ZJ i5) (Nat.zero_le _),λg hg=>by
  have jt:=Zb fP.out hg;have h1:w.heap.size<=g:=jt.1;rw[de.2 g ZP]
  exact HF.out g h1⟩
 have Ig:∀(i:Nat) (f:Fl),(fs++[(⟨to,l⟩:Fl)])[i]? = some f->∃x,(ps++[(to,Value.slice a2 l.length dy)])[i]? = some (f.to,x)/\RowB cK 0 w3 x f.bytes:=λi f hf=>by
  rcases Nat.lt_or_ge i fs.length with cI|lr
  ·rw[List.getElem?_append_left cI]at hf;rw[List.getElem?_append_left (by rw[mX.out];exact cI)];obtain⟨x,hx,rR⟩:=iS.out i f hf;exact⟨x,hx,rR.upd de.1 (λh=>IL h.symm)⟩
  ·rw[List.getElem?_append_right lr]at hf;rw[List.getElem?_append_right (by rw[mX.out];exact lr),mX.out];have uX:i-fs.length=0:=by
    have:=(ZZ.1 hf).1;simp at this;omega
   rw[uX]at hf ⊢;have hf:(⟨to,l⟩:Fl)=f:=by simpa using hf
   subst hf;exact⟨_,rfl,nS⟩
 obtain⟨a3,dK,rfl⟩:∃a cap,v3=S_ a (M+1) cap:=by
  rcases dW.2 with ⟨h1,h2⟩|⟨g,cp,_,h1,_⟩
  ·omega
  ·exact⟨_,cp,h1⟩
 have cB:=fK.cell 0;have gM:=fK.frozen 0;simp only[ZD,ZE]at cB;have oA:=fK.lt;obtain⟨kA,dN,ew,lI,M5,Ms⟩:=ZH6 dW fK de.1 F7 IX Ig;clear dW fK cN de F7 IX Ig nS i5 oe dQ D6 oP;refine hK.out _ _ ?_;clear hK K cu;repeat((first|refine ZSa ?_|refine ZSb ?_|refine ZSc ?_);simp only[Act.put,Q_])
 refine ZSe λK hK=>?_
 go_simp;refine hK.out _ _ ?_;clear hK K;refine ZSf ?_;go_wp2_with fail;go_end0
 have fG:Upd (· = t) cK cK w3 (w3.setCell ⟨p,0,none⟩ (S_ a3 (M+1) dK)):=(Upd.refl (· = t) cK w3 ew.out.fresh).setCell (p:=⟨p,0,none⟩) (λ_=>lI.out) _;refine⟨rfl,cK,⟨lI.out,_,ps++[(to,Value.slice a2 l.length dy)],dN.out.aj 0 _,?_,M5.out,by rw[ZI,ZI,mX.out];rfl,λi f hf=>?_⟩,ew.out.setCell (p:=⟨p,0,none⟩) (λ_=>HM.out) _⟩
 ·rw[ZI,←pZ.out,show flCells (ps++[(to,Value.slice a2 l.length dy)])=flCells ps++[I_ J_ (to:Int),S_ a2 l.length dy] by simp[flCells]];exact Zi kA.out (λg hg _=>Below.heap_setCell _ _ _ _ (λhe=>Zr kA.out dN.out ZJ (by rw[hg,he])))
 ·obtain⟨x,hx,rR⟩:=Ms.out i f hf;exact⟨x,hx,rR.upd fG (λh=>IL h.symm)⟩
theorem ZiN:∀(l:List (Nat×Value)) (i:Nat) (p:Nat×Value),l[i]? = some p->(flCells l)[i*2]? = some (I_ J_ (p.1:Int))/\(flCells l)[i*2+1]? = some p.2
 | [],i,p,h=>by simp at h
 |x::l,0,p,h=>by
  have hx:x=p:=by simpa using h
  subst hx;exact⟨rfl,rfl⟩
 |x::l,i+1,p,h=>by
  have ih:=ZiN l i p (by simpa using h);have e:flCells (x::l)=I_ J_ (x.1:Int)::x.2::flCells l:=rfl;rw[e,show(i+1)*2=i*2+1+1 by omega,show i*2+1+1+1=(i*2+1)+1+1 by omega];exact ih
theorem Zgw{own:Own}{fs:List Fl}(h:LinkAt own t w p fs)(i:Int)(hi:i<0∨(fs.length:Int)<=i):
  Calls prog 59 #[P_ (some ⟨p,0,none⟩),I_ J_ i] w (Zx (.tuple #[.agg #[I_ J_ 0,S_ none 0 0],I_ J_ 24]) w):=by
 obtain⟨_,v,ps,hb,hr,_⟩:=h;have hv:∃a cap,v=S_ a fs.length cap:=by
  rcases hr.2 with ⟨h1,h2⟩|⟨g,cp,_,h1,_⟩
  ·exact⟨none,0,by rw[h2];exact h1⟩
  ·exact⟨_,cp,h1⟩
 obtain⟨a,cap,rfl⟩:=hv;have c0:=hb.cell 0;simp only[ZD,ZE]at c0;have cI:=hb.lt;obtain⟨HK,HX⟩:=ZH2 ((ZKr w).alloc (C_ #[I_ J_ 0,S_ none 0 0] 136)) (ZBn w 136 #[I_ J_ 0,S_ none 0 0]);clear hb hr;rcases Int.lt_or_le i 0 with yn|eN
 rotate_left
 focus
  have lr:(fs.length:Int)<=i:=ZO;have hn:¬(i<0):=ZO;clear hi
 rotate_left
 all_goals
  go_enter func59,ntmps59;go_wp2_with fail;refine bodyPost_ret (Zq rfl rfl rfl (run_loadVar_row _ _ _ _ _ _ _ HX.out underlying136 rfl ZK)) rfl ?_;exact⟨rfl,HK.out.below⟩
theorem Zlc{own:Own}{fs:List Fl}(h:LinkAt own t w p fs)(i:Nat){f:Fl}(hf:fs[i]? = some f)(hl:f.bytes.length<=1000000000):
  Calls prog 59 #[P_ (some ⟨p,0,none⟩),I_ J_ i] w λr w'=>∃x,r=R_ (.tuple #[.agg #[I_ J_ f.to,x],I_ J_ 0])/\w'.ownsRow w.heap.size 5 1 x f.bytes.length (cells f.bytes)/\Below w.heap.size w w':=by
 have oS:i<fs.length:=(ZZ.1 hf).1;obtain⟨_,v,ps,hb,hr,yI,gx,gP⟩:=h;obtain⟨x,hx,rR⟩:=gP i f hf;obtain⟨ax,cx,rfl,fW⟩:=Bytes.ae rR.row;obtain⟨g0,g1⟩:=ZiN ps i _ hx;have hv:∃g cap,v=S_ (some ⟨g,0,none⟩) fs.length cap/\g<w.heap.size/\w.cell? ⟨g,i*2,none⟩=some (I_ J_ (f.to:Int))/\w.cell? ⟨g,i*2+1,none⟩=some (S_ ax f.bytes.length cx):=by
  have cI:=Zb hr (g:=match v with|S_ (some a) _ _=>a.block|_=>0);rcases hr.2 with ⟨h1,h2⟩|⟨g,cp,cur,h1,_,cW,_⟩
  ·omega
  ·subst h1;refine⟨g,cp,rfl,(show Blk w g _ cur from cW).lt,?_,?_⟩
   ·have h:=hr.cellAt (i*2) ZO;rw[g0]at h;simpa using h
   ·have h:=hr.cellAt (i*2+1) ZO;rw[g1]at h;simpa using h
 obtain⟨g,cap,rfl,ez,k0,k1⟩:=hv;have c0:=hb.cell 0;simp only[ZD,ZE]at c0;have cI:=hb.lt;have HK:=ZH ((ZKr w).alloc (C_ #[I_ J_ 0,S_ none 0 0] 136));have jS:=ZBn w 136 #[I_ J_ 0,S_ none 0 0];obtain⟨HX,lc⟩:=ZH2 jS fW;have uX:¬((i:Int)<0):=ZO;have zK:¬((fs.length:Int)<=(i:Int)):=ZO;have Ov:(i:Int)<(fs.length:Int):=ZO;have RV:(0:Int)<=(i:Int):=ZO;clear hb hr jS gP rR fW g0 g1 hx;go_enter func59,ntmps59;go_wp2_with fail;obtain⟨W,hW⟩:∃W,W=(w.alloc (C_ #[I_ J_ 0,S_ none 0 0] 136)).alloc (C_ #[I_ J_ (f.to:Int),S_ ax f.bytes.length cx] 136):=⟨_,rfl⟩;rw[←hW];have j8:Blk W (w.heap.size+1) 136 #[I_ J_ (f.to:Int),S_ ax f.bytes.length cx]:=by rw[hW];exact Zag w _ _ _
 have jS:Blk W w.heap.size 136 #[I_ J_ 0,S_ none 0 0]:=by rw[hW];exact HX.out.alloc _
 have sE:Kept w.heap.size w W:=by rw[hW];exact HK.out.alloc _
 obtain⟨e0,e1⟩:=j8.two;have Cy:=j8.lt;obtain⟨sg,yV,wR,ua⟩:=ZH4 jS sE ((lc.out.kept sE.below (ZL _)).kept (ZW W.heap.size W).drew (ZL _)) (jS.lt);clear j8 jS sE hW c0 k0 k1;refine ZSi [(0,3),(1,0),(2,3),(3,0),(4,1),(5,3),(6,2),(7,3)] λcu=>?_
 repeat((first|refine ZSa ?_|refine ZSb ?_|refine ZSc ?_);simp only[Act.put,Q_])
 refine ZSd λK hK=>?_
 go_simp;refine(ZeO wR.out hl).mono ?_;rintro _ w2 ⟨v2,rfl,dV,cD⟩;have cX:=cu.step cD;obtain⟨a2,dy,rfl,_⟩:=Bytes.ae dV;have kw:=sg.out.ob cX.below;obtain⟨m0,m1⟩:=kw.two;have f0:=kw.frozen 0;have f1:=kw.frozen 1;have jt:=kw.lt;obtain⟨fP,cO,qa⟩:=ZH3 dV (yV.out.trans cX yV.out.le) kw;refine hK.out (λw'=>Kept W.heap.size W w') _ _ (λ_ h=>h) cX (λcA=>?_);clear hK K cu cD cX dV kw cA;repeat((first|refine ZSa ?_|refine ZSb ?_|refine ZSc ?_);simp only[Act.put,Q_])
 refine ZSe λK hK=>?_
 go_simp;refine hK.out _ _ ?_;clear hK K;repeat((first|refine ZSa ?_|refine ZSb ?_|refine ZSc ?_);simp only[Act.put,Q_])
 refine ZSf ?_;go_wp2_with fail;have dz:=(qa.out.aj 0 (I_ J_ (f.to:Int))).aj 1 (S_ a2 f.bytes.length dy);refine bodyPost_ret (Zq rfl rfl rfl (run_loadVar_row _ _ _ _ _ _ _ dz underlying136 rfl ZK)) rfl ?_;have dR:∀g',(Value.slice a2 f.bytes.length dy).ownBlock=some g'->g'≠w.heap.size:=λg' ll e=>by
  have h1:W.heap.size<=g':=(Zb fP.out ll).1;have:=ua.out;omega
 exact⟨_,rfl,Zj (Zi fP.out (λg' ll _=>(Below.heap_setCell _ _ _ _ (dR g' ll)).trans (Below.heap_setCell _ _ _ _ (dR g' ll)))) (show w.heap.size<=W.heap.size from yV.out.le),((cO.out.setCell (p:=⟨w.heap.size,0,none⟩) (ZL _) _).setCell (p:=⟨w.heap.size,1,none⟩) (ZL _) _).below⟩
abbrev Zin:Array Value:=#[I_ J_ 0,S_ none 0 0]
theorem ZtM:(prog.info? 136).map (·.zero)=some (some (.agg Zin)):=ZK
theorem Zgr(a b:List (Nat×Value)):flCells (a++b)=flCells a++flCells b:=by simp[flCells]
theorem ZiM(es:List (Nat×Value))(i:Nat):flCells (es.take i)=(flCells es).take (i*2)/\flCells (es.drop i)=(flCells es).drop (i*2):=by
 have h:=Zgr (es.take i) (es.drop i);rw[List.take_append_drop]at h;rcases Nat.lt_or_ge es.length i with hi|hi
 ·rw[List.drop_eq_nil_of_le ZO,List.drop_eq_nil_of_le (by rw[ZeR];omega),ZU ZO,ZU (by rw[ZeR];omega)];exact⟨rfl,rfl⟩
 ·have hl:(flCells (es.take i)).length=i*2:=by rw[ZeR,ZV,Nat.min_eq_left hi]
  rw[h,←hl];exact⟨List.take_left.symm,List.drop_left.symm⟩
theorem Zqp{base g i j:Nat}{es:List (Nat×Value)}(h:w.ownsRow base 136 2 (S_ (some ⟨g,0,none⟩) n cap) n (flCells es))(pI:i<=j)(zL:j<=n)(hn:n<=1000000)(QU:∀u∈flCells es,u.oneCell'=true):
  Calls prog 104 #[S_ (some ⟨g,0,none⟩) n cap,I_ J_ i,I_ J_ j] w λr w'=>r=R_ (S_ (some ⟨g,0,none⟩) (i+(n-j)) cap)/\w'.ownsRow base 136 2 (S_ (some ⟨g,0,none⟩) (i+(n-j)) cap) (i+(n-j)) (flCells (es.take i++es.drop j))/\w.grownBy w' (some g):=by
 obtain⟨i0,hi,dd,cV,dc⟩:=info_parts Zor;have hlen:=h.1;have ny:n<=cap/\cap<=maxLen:=by
  rcases h.2 with ⟨h2,_⟩|⟨g',cap',cur,he,_,_,fp,iK,_⟩
  ·cases h2
  ·injection he with _ _ nO;subst nO;exact⟨fp,iK⟩
 obtain⟨fp,iK⟩:=ny;unfold maxLen at iK;have ur:flCells (es.take i++es.drop j)=(flCells es).take (i*2)++(flCells es).drop (j*2):=by rw[Zgr,(ZiM es i).1,(ZiM es j).2]
 rw[ur];have H1:=ZH QU;clear QU;generalize flCells es=xs at *;rcases Nat.eq_or_lt_of_le pI with rfl|cI
 ·have e1:i+(n-i)=n:=ZO;have e2:xs.take (i*2)++xs.drop (i*2)=xs:=List.take_append_drop _ _;rw[e1,e2];have H:=ZH h;clear h e1 e2 hlen;have VQ:((i:Int)==(i:Int))=true:=ZM;rcases Nat.eq_or_lt_of_le zL with rfl|cI
  all_goals
   go_enter func104,ntmps104;go_wp2
   go_ret;exact⟨rfl,H.out,Zg1 _ _⟩
 ·have dR:((i:Int)==(j:Int))=false:=ZP;obtain⟨dk,jo⟩:=ZkE (i:=i) (j:=j) (zs:=(Builtin.zeroCells Zin (j-i)).toList) h pI zL (by simp[size_zeroCells]);have j5:i<n:=ZO;have fg:∀ty,(Builtin.clear_ #[125] ty #[S_ (some ⟨g,(i+(n-j))*2,none⟩) (n-(i+(n-j))) (cap-(i+(n-j)))]).run prog (setAll w.drew g (i*2) (xs.drop (j*2)))=.ok (.tuple #[]) (setAll (setAll w.drew g (i*2) (xs.drop (j*2))) g ((i+(n-j))*2) (Builtin.zeroCells Zin (j-i)).toList):=by
   intro ty;have e1:n-(i+(n-j))=j-i:=ZO;rw[e1];rcases h.2 with ⟨h2,_⟩|⟨g',cap',cur,he,_,hh,_,_,gC,_⟩
   ·cases h2
   ·injection he with fR _ nO
    injection fR with fR
    injection fR with fR
    subst fR nO;have cH:Blk w.drew g 136 cur.toList.toArray:=by rw[Array.toArray_toList];exact hh
    have hd:(xs.drop (j*2)).length=(n-j)*2:=by rw[List.length_drop,hlen,Nat.sub_mul]
    have cz:=Zbr (xs.drop (j*2)) (i*2) w.drew cur.toList cH (by rw[hd,Array.length_toList,gC];omega);refine Zfc _ 125 136 ty (.agg Zin) underlying125 (ZoH ZtM) (by intro v hv;simp[Value.cells,Zin]at hv;rcases hv with rfl|rfl <;> rfl) g _ (j-i) _ ZO (λk hk=>?_) (λk _=>cz.frozen _)
    rw[cz.cell,ZD,ZX (by
     have i6:k<(j-i)*2:=hk;simp only[ZI,ZV,List.length_drop,Array.length_toList,gC,hlen]
     omega)]
    rfl
  obtain⟨HO,HG,H,tC⟩:=ZH4 dk jo h fg;clear dk jo h hlen fg;go_enter func104,ntmps104;go_wp2_with fail;have VR:(j:Int)<=(cap:Int):=ZO;have VP:(i:Int)<=(cap:Int):=ZO;have Ow:i<=cap:=ZO;have Oy:(j:Int)<=(n:Int):=ZO;have Vg:(0:Int)<=(i:Int):=ZO;have Vh:(0:Int)<=(j:Int):=ZO;have lw:(n:Int)<=(cap:Int):=ZO;have eV:∀ty,(Builtin.append_ #[125,125] ty #[S_ (some ⟨g,0,none⟩) i cap,.slice (if cap=j then some ⟨g,0,none⟩ else some ⟨g,j*2,none⟩) (n-j) (cap-j)]).run prog w.drew=.ok (S_ (some ⟨g,0,none⟩) (i+(n-j)) cap) (setAll w.drew g (i*2) (xs.drop (j*2))):=by
   intro ty;have hx:=H.out.1;have fg:∀k u,xs[k]? = some u->w.drew.cell? ((⟨g,0,none⟩:Addr).add k)=some u:=H.out.cells (g:=g) rfl;rcases H.out.2 with ⟨h2,_⟩|⟨g',cap',cur,he,_,hh,_,_,gC,_⟩
   ·cases h2
   ·injection he with fR _ nO
    injection fR with fR
    injection fR with fR
    subst fR nO;have cH:Blk w.drew g 136 cur.toList.toArray:=by rw[Array.toArray_toList];exact hh
    have kE:(xs.drop (j*2)).length=(n-j)*2:=by rw[List.length_drop,hx,Nat.sub_mul]
    by_cases sx:cap=j
    ·rw[ZPp sx];have h0:n-j=0:=ZO
     exact ZdW w.drew _ ty 136 i0 underlying125 hi g cap 2 i (n-j) (cap-j) cV ⟨g,0,none⟩ cur.toList (xs.drop (j*2)) cH kE (λk u hk=>by
      rw[List.getElem?_eq_none (by rw[kE,h0];omega)]at hk
      cases hk) (λu hu=>H1.out u (List.mem_of_mem_drop hu)) ZO (by rw[Array.length_toList,gC])
    ·rw[ZPn sx]
     exact ZdW w.drew _ ty 136 i0 underlying125 hi g cap 2 i (n-j) (cap-j) cV ⟨g,j*2,none⟩ cur.toList (xs.drop (j*2)) cH kE (λk u hk=>by
      have:=fg (j*2+k) u (by rw[←hk,List.getElem?_drop]);have e1:(⟨g,j*2,none⟩:Addr).add k=(⟨g,0,none⟩:Addr).add (j*2+k):=by
       unfold Addr.add;by_cases h1:k=0 <;> by_cases h2:j*2+k=0 <;> simp[h1,h2] <;> omega
      rw[e1]
      exact this) (λu hu=>H1.out u (List.mem_of_mem_drop hu)) ZO (by rw[Array.length_toList,gC])
  have kI:=ZH eV;clear eV;refine ZSh (λw'=>K_ w w') [(0,3),(1,3),(2,3),(3,3),(4,3),(5,3),(6,2),(7,3)] (Kept.drew ⟨ZW _ _,ZL _⟩) λcu=>?_
  repeat((first|refine ZSa ?_|refine ZSb ?_|refine ZSc ?_);simp only[Act.put,Q_])
  refine ZSe λK hK=>?_
  refine Lib.wp_append_run _ (.tmp 22) (.tmp 25) _ _ rfl _ _ rfl rfl _ _ (kI.out _) ?_;refine hK.out _ _ ?_;clear hK K;obtain⟨w3,mV⟩:∃w3,w3=setAll w.drew g (i*2) (xs.drop (j*2)):=⟨_,rfl⟩;have pi:=ZH mV;rw[←mV]at tC ⊢;clear mV;repeat((first|refine ZSa ?_|refine ZSb ?_|refine ZSc ?_);simp only[Act.put,Q_])
  refine ZSf ?_;have fg:=tC.out;go_wp2_with fail
  all_goals(try (have sx:cap=j:=by assumption);try subst sx)
  all_goals
   go_ret;rw[pi.out,ZdA,ZdA];exact⟨rfl,Zi HO.out (λ_ _ _=>rfl),Zc4 HG.out ⟨rfl,rfl,rfl,ZL _,λ_ _ _=>rfl⟩⟩
theorem ZqA(a:Int)(x:Option Addr)(n c:Nat):(#[Value.int .i64 a,S_ x n c]).all (·.oneCell')=true:=by
 rw[Array.all_eq_true_iff_forall_mem];intro v hv;simp at hv;rcases hv with rfl|rfl <;> rfl
theorem Upd.aJ{T:Nat->Prop}{own own':Own}{w1 w2:World}{g:Nat}(h:Upd T own own' w w1)(hg:w1.grownBy w2 (some g))(hT:g<w.heap.size->T (own g)):Upd T own own' w w2 :=
 ⟨hg.os.trans h.os,hg.tape.trans h.tape,hg.output.trans h.output,ZT h.size hg.size,h.old,λb hb hn=>(hg.block b (ZR hb h.size) (λe=>by
  injection e with e
  exact hn (by rw[e];exact hT (e▸hb)))).trans (h.same b hb hn),λb hb=>h.fresh b (ZT hg.size hb)⟩
theorem Upd.setRow{T:Nat->Prop}{own own':Own}{w w1:World}{g:Nat}(h:Upd T own own' w w1)(hg:g<w.heap.size->T (own g))(cs:Array Value):Upd T own own' w (w1.setRow g cs) :=
 ⟨h.os,h.tape,h.output,by rw[setRow_size];exact h.size,h.old,λb hb hn=>(setRow_other _ _ _ _ (λe=>hn (by rw[e];exact hg (e▸hb)))).trans (h.same b hb hn),λb hb=>h.fresh b (by rw[setRow_size]at hb;exact hb)⟩
theorem ZqP{own:Own}{fs:List Fl}(h:LinkAt own t w p fs)(hf:Fresh own w)(IL:t≠0)(kN:fs.length<=1000000)(i:Nat){f:Fl}(qf:fs[i]? = some f)(hl:f.bytes.length<=1000000000):
  Calls prog 58 #[P_ (some ⟨p,0,none⟩),I_ J_ i] w λr w'=>∃x,r=R_ (.tuple #[.agg #[I_ J_ f.to,x],I_ J_ 0])/\RowB own 0 w' x f.bytes/\LinkAt own t w' p (fs.eraseIdx i)/\Upd (· = t) own own w w':=by
 have oS:i<fs.length:=(ZZ.1 qf).1;have cR:=(ZKr w).alloc (C_ #[I_ J_ 0,S_ none 0 0] 136);have HX:=ZH (ZBn w 136 #[I_ J_ 0,S_ none 0 0]);have dt:=ZUb (T:=λ_=>False) cR.below hf;have jD:=h.upd dt (λh=>h) (λh=>h);obtain⟨tD,HF,HK,HL,rp⟩:=ZH5 (Zlc jD i qf hl) hf cR jD qf;have Kp:p<w.heap.size:=by
  obtain⟨_,v,ps,hb,_⟩:=h;exact hb.lt
 clear h hf cR dt jD qf;go_enter func58,ntmps58;go_wp2_with fail;refine tD.out.mono ?_;rintro _ w1 ⟨x,rfl,rR,cz⟩;obtain⟨ax,cx,rfl,_⟩:=Bytes.ae rR;have dI:=HK.out.step cz;have j8:=HX.out.ob cz;obtain⟨W,hW⟩:∃W,W=w1.alloc (C_ #[I_ J_ (f.to:Int),S_ ax f.bytes.length cx] 136):=⟨_,rfl⟩;have sE:Kept w.heap.size w W:=by rw[hW];exact dI.alloc _
 have I1:Blk W w.heap.size 136 #[I_ J_ 0,S_ none 0 0]:=by rw[hW];exact j8.alloc _
 have I2:Blk W w1.heap.size 136 #[I_ J_ (f.to:Int),S_ ax f.bytes.length cx]:=by rw[hW];exact ZBn _ _ _
 have I5:W.ownsRow (w.heap.size+1) 5 1 (S_ ax f.bytes.length cx) f.bytes.length (cells f.bytes):=by
  rw[hW];have h:=rR.alloc (C_ #[I_ J_ (f.to:Int),S_ ax f.bytes.length cx] 136);rwa [show(w.alloc (C_ #[I_ J_ 0,S_ none 0 0] 136)).heap.size=w.heap.size+1 by simp]at h
 have Q9:LinkAt own t W p fs:=by
  have hb:Below (w.alloc (C_ #[I_ J_ 0,S_ none 0 0] 136)).heap.size (w.alloc (C_ #[I_ J_ 0,S_ none 0 0] 136)) W:=by rw[hW];exact((Kept.start cz).alloc _).below
  exact HL.out.upd (ZUb (T:=λ_=>False) hb (ZUb (T:=λ_=>False) HK.out.below HF.out).fresh) (λh=>h) (λh=>h)
 have TV:Hid (Fresh own W):=ZH ((ZUb (T:=λ_=>False) sE.below HF.out).fresh);have Pu:w.heap.size<w1.heap.size:=j8.lt;obtain⟨yV,sg,fJ,Fq,Uk,HW⟩:=ZH6 sE I1 I2 I5 Q9 hW;clear rR cz dI j8 sE I1 I2 I5 Q9 hW;obtain⟨hm,v,ps,hb,hr,yI,gx,gP⟩:=Uk.out;have hv:∃g cap,v=S_ (some ⟨g,0,none⟩) fs.length cap:=by
  rcases hr.2 with ⟨h1,h2⟩|⟨g,cp,_,h1,_⟩
  ·omega
  ·exact⟨g,cp,h1⟩
 obtain⟨g,cap,rfl⟩:=hv;have c0:=hb.cell 0;simp only[ZD,ZE]at c0;have cI:=hb.lt;have dP:∀u∈flCells ps,u.oneCell'=true:=λu hu=>by
  obtain⟨q,hq,hu⟩:=List.mem_flatMap.1 hu;obtain⟨j,hj,R0⟩:=List.getElem_of_mem hq;obtain⟨y,hy,Wk⟩:=gP j (fs[j]'ZO) (ZX _);rw[ZX hj,R0]at hy;injection hy with hy;subst hy;obtain⟨ay,cy,rfl,_⟩:=Bytes.ae Wk.row;simp at hu;rcases hu with rfl|rfl <;> rfl
 have Cb:=Zqp hr (Nat.le_succ i) (show i+1<=fs.length from oS) kN dP;rw[show((i+1:Nat):Int)=(i:Int)+1 by omega]at Cb;have hwi:IntKind.i64.wrap ((i:Int)+1)=(i:Int)+1:=by rw[IntKind.wrap_i64];omega
 obtain⟨HM,HB,HR,Bn,mX,iS,K7⟩:=ZH7 hm hb hr yI gx gP Cb;clear hm hb hr yI gx gP dP Cb;rw[HW.out]at c0 cI;go_wp2_with fail;rw[←HW.out];refine K7.out.mono ?_;rintro _ w4 ⟨rfl,iO,dL⟩;have kp:∀k,w.heap.size<=k->k≠g:=λk hk e=>by
  have h1:=HF.out k hk;rw[e]at h1;have h2:=Bn.out g rfl;exact IL (h2.symm.trans h1)
 have Ie:p≠g:=λe=>Zr HR.out HB.out ZJ (by rw[e];rfl)
 have jB:=HB.out.grown dL (λe=>Ie (by injection e));have su:=sg.out.grown dL (λe=>kp _ (ZL _) (by injection e));have xN:=fJ.out.grown dL (λe=>kp _ (Nat.le_of_lt Pu) (by injection e));obtain⟨W5,ir⟩:∃W5,W5=w4.setCell ⟨p,0,none⟩ (S_ (some ⟨g,0,none⟩) (i+(fs.length-(i+1))) cap):=⟨_,rfl⟩;have OZ:w.heap.size≠p:=ZO;have O0:w1.heap.size≠p:=ZO;have qd:Blk W5 p 127 #[S_ (some ⟨g,0,none⟩) (i+(fs.length-(i+1))) cap]:=by rw[ir];exact jB.aj 0 _
 have Gd:Blk W5 w.heap.size 136 #[I_ J_ 0,S_ none 0 0]:=by rw[ir];exact su.far OZ _
 have Ge:Blk W5 w1.heap.size 136 #[I_ J_ (f.to:Int),S_ ax f.bytes.length cx]:=by rw[ir];exact xN.far O0 _
 have c4:=jB.cell 0;have f4:=jB.frozen 0;simp only[ZD,ZE]at c4;have qY:=jB.lt;obtain⟨e0,e1⟩:=xN.two;obtain⟨m0,m1⟩:=su.two;have q0:=su.frozen 0;have q1:=su.frozen 1;have jD:=su.lt;have jE:=xN.lt;obtain⟨gS,Lm,lX,Bt,M6,qD,gy,yZ⟩:=ZH8 iO dL qd Gd Ge ir jB kp;clear iO dL jB su xN qd Gd Ge ir kp c0
 go_wp2_with (first
  |(refine wpList_load_row rfl 136 (.tmp 6) rfl w1.heap.size rfl 136 #[I_ J_ (f.to:Int),S_ ax f.bytes.length cx] (0,0) _ (by rw[←qD.out];exact M6.out) underlying136 rfl ZK ?_
    rw[←qD.out])
  |(refine wpList_store_row rfl 136 (.tmp 4) (.tmp 29) rfl w.heap.size #[I_ J_ (f.to:Int),S_ ax f.bytes.length cx] rfl rfl 136 #[I_ J_ 0,S_ none 0 0] Bt.out ZK rfl (ZqA _ _ _ _) ?_))
 refine bodyPost_ret (Zq rfl rfl rfl (run_loadVar_row _ _ _ _ _ _ _ (Bt.out.row _) underlying136 rfl ZK)) rfl ?_;have ie:own g=t:=Bn.out g rfl;have yH:Upd (· = t) own own W w4:=(Upd.refl (· = t) own W TV.out).aJ Lm.out (λ_=>ie);have rP:Upd (· = t) own own W W5:=by
  rw[qD.out];exact yH.setCell (p:=⟨p,0,none⟩) (λ_=>HM.out) _
 have hu:Upd (· = t) own own w (W5.setRow w.heap.size #[I_ J_ (f.to:Int),S_ ax f.bytes.length cx]):=by
  have h1:Upd (· = t) own own w W5:=(ZUb (T:=(· = t)) yV.out.below HF.out).trans rP;exact h1.setRow (λh=>absurd h (Nat.lt_irrefl _)) _
 have vB:∀(x:Value) (bs:List Nat),RowB own 0 W x bs->RowB own 0 (W5.setRow w.heap.size #[I_ J_ (f.to:Int),S_ ax f.bytes.length cx]) x bs:=λx bs Wi=>by
  have h1:=Wi.upd rP (λh=>IL h.symm);exact⟨Zi h1.row (λk hk _=>setRow_other _ _ _ _ (λe=>Zr h1.row Bt.out ZJ (by rw[hk,e]))),h1.own⟩
 have Wh:RowB own 0 W (S_ ax f.bytes.length cx) f.bytes:=⟨Zj Fq.out (Nat.zero_le _),λk hk=>HF.out k (by have:=Zb Fq.out hk;omega)⟩;refine⟨_,rfl,vB _ _ Wh,⟨HM.out,_,ps.take i++ps.drop (i+1),lX.out.aU ZO _,?_,λk hk=>by injection hk with hk;rw[←hk];exact ie,?_,λj fj hj=>?_⟩,hu⟩
 ·have GX:(fs.eraseIdx i).length=i+(fs.length-(i+1)):=by rw[List.length_eraseIdx,ZPp oS];omega
  rw[GX];have h1:W5.ownsRow 0 136 2 (S_ (some ⟨g,0,none⟩) (i+(fs.length-(i+1))) cap) (i+(fs.length-(i+1))) (flCells (ps.take i++ps.drop (i+1))):=by
   rw[qD.out];exact Zi gS.out (λk hk _=>Below.heap_setCell _ _ _ _ (λe=>Zr gS.out gy.out ZJ (by rw[hk,e])))
  exact Zi h1 (λk hk _=>setRow_other _ _ _ _ (λe=>by
   injection hk with hk
   exact yZ.out k (by rw[e];exact ZL _) hk.symm))
 ·have gx:=mX.out;rw[ZI,ZV,List.length_drop,List.length_eraseIdx,ZPp oS];omega
 ·rw[List.getElem?_eraseIdx]at hj;have gx:=mX.out;split at hj
  ·rename_i kP;obtain⟨x,hx,rR⟩:=iS.out j fj hj;refine⟨x,?_,vB _ _ rR⟩;rw[List.getElem?_append_left (by rw[ZV];omega),List.getElem?_take,ZPp kP];exact hx
  ·rename_i kP;obtain⟨x,hx,rR⟩:=iS.out (j+1) fj hj;refine⟨x,?_,vB _ _ rR⟩;have Wc:(ps.take i).length=i:=by rw[ZV];omega
   rw[List.getElem?_append_right ZO,Wc,List.getElem?_drop,show i+1+(j-i)=j+1 by omega];exact hx
def Zch(l:List Ev)(e:Ev):Bool:=l.any λa=>decide (a.kind=1)&&a.below e
def ZfL(l:List Ev):List Ev:=l.filter λa=>decide (a.kind=1)||Zch l a
def Zg3(e:Ev)(k:Nat)(same:Ev->Bool)(a:Ev):Bool := !(decide (a.kind=k)) || !same a || !(a.below e)
def ZaQ(l:List Ev)(e:Ev)(k:Nat)(same:Ev->Bool):List Ev:=l.filter (Zg3 e k same)
theorem Zms{pe:Nat}(he:Blk w pe 89 (evArr e))(a:Ev)(hr:a.r<5):
  Calls prog 227 #[Zaj a,P_ (some ⟨pe,0,none⟩)] w (Zx (B_ (decide (a.kind=1)&&a.below e)) w):=by
 have hy:=λW=>Zf1 a e W hr
 have eS:=(ZW w.heap.size w).alloc (ZL _) (C_ (evArr a) 89);have fR:=he.ob eS;obtain⟨e0,e1,e2,e3,e4,e5,e6,e7,e8,e9,jj,jI⟩:=fR.ag;have eE:=he.lt;have HB:=ZH eS;clear he fR eS;go_enter func227,ntmps227;by_cases hk:a.kind=1
 ·have cX:((a.kind:Int)==1)=true:=by simp[hk]
  have kH:=ZH hk;clear hk;go_wp2_with fail;refine(hy _).mono ?_;rintro _ w2 ⟨rfl,cD⟩;go_wp2
  go_ret;exact⟨by simp[kH.out],HB.out.trans (cD.mono HB.out.size)⟩
 ·have cX:((a.kind:Int)==1)=false:=ZP;have kH:=ZH hk;clear hk;go_wp2
  go_ret;exact⟨by simp[kH.out],HB.out⟩
theorem ZiC{l:List Ev}(h:EvSl w a n cap l)(hn:n<=1000000)(hr:∀x∈l,x.r<5):
  Calls prog 196 #[S_ a n cap,Zaj e] w (Zx (B_ (Zch l e)) w):=by
 have hE:=ZBn w 89 (evArr e);have om:=(ZW w.heap.size w).alloc (ZL _) (C_ (evArr e) 89);have hc:=Zge (h.below om) hn 227 #[P_ (some ⟨w.heap.size,0,none⟩)] (λa=>decide (a.kind=1)&&a.below e) (enters_of func227 ZK rfl)
  (λW x hx hW=>Zms (hE.below hW ZM) x (hr x hx))
 obtain⟨HC,HB⟩:=ZH2 hc om;clear hE om hc h;go_enter func196,ntmps196;go_wp2_with fail;refine HC.out.mono ?_;rintro _ w1 ⟨rfl,cz⟩;go_wp2
 go_ret;exact⟨rfl,HB.out.trans (cz.mono ZM)⟩
theorem Znw{l:List Ev}(h:EvSl w a n cap l)(hn:n<=1000000)(hr:∀x∈l,x.r<5):
  Calls prog 193 #[S_ a n cap] w (ZeK (ZfL l) w):=by
 obtain⟨p,iu⟩:∃p:Ev->Bool,p=λa=>decide (a.kind=1)||Zch l a:=⟨_,rfl⟩
 have e0:ZfL l=l.filter p:=by rw[iu];rfl
 rw[e0];have HP:=ZH iu;clear iu e0;have HL:=ZH (h.2.2.1);obtain⟨i0,hi,dd,cV,dc⟩:=info_parts ZbV;obtain⟨HR,HE⟩:=ZH2 hr h;have HO:Hid (w.ownsRow w.heap.size 89 12 (S_ none 0 0) ((l.take 0).filter p).length (evCells ((l.take 0).filter p))):=ZH ⟨rfl,.inl ⟨rfl,rfl⟩⟩;have HK:=ZH (ZKr w);clear h hr;go_enter func193,ntmps193;go_wp2_with fail;go_loopw [3,8] (λv i wr=>∃q:Nat,q<=n/\i=I_ J_ q/\Hid (wr.ownsRow w.heap.size 89 12 v ((l.take q).filter p).length (evCells ((l.take q).filter p)))/\Hid (K_ w wr)) (λ_ i _=>n-(intOf i).toNat)
 case atStart=>exact⟨0,Nat.zero_le _,rfl,HO,HK⟩
 case round =>
  skip
  obtain⟨q,hq,rfl,HO,HK⟩:=hrel;by_cases du:q<n
  ·obtain⟨e,he⟩:∃e,l[q]? = some e:=⟨_,ZX (by rw[HL.out];exact du)⟩;have hs:=HE.out.of_same (w':=wr) (λad _ hl=>HK.out.below.block _ hl) HK.out.le;have eu:=hs;obtain⟨bk,off,rfl,cW,c0,c1,c2,c3,c4,c5,c6,c7,c8,c9,dg,dh⟩:=hs.at_ he;have iC:=Zd2 p (l.take q) e;rw[←Zan he]at iC;have sw:((l.take q).filter p).length<=1000000:=by
    have h1:=List.length_filter_le p (l.take q);rw[ZV]at h1;omega
   obtain⟨aa,fC,rfl,_⟩:=EvSl.ae HO.out;have cO:=ZH (HK.out.alloc (C_ (evArr e) 89));have fQ:=(ZW wr.heap.size wr).alloc (ZL _) (C_ (evArr e) 89);obtain⟨iX,oL,KM,fy⟩:=ZH4 (Ze HO.out fQ) (ZBn wr 89 (evArr e)) (ZiC (e:=e) (eu.below fQ) hn HR.out) iC;clear hs eu he iC fQ;by_cases dI:e.kind=1
   ·have l7:((e.kind:Int)==1)=true:=by simp[dI]
    have hp:p e=true:=by rw[HP.out];simp[dI]
    rw[ZPp hp]at fy;clear dI;have dM:=cO.out.alloc (C_ (evArr e) 89);have gZ:=Ze iX.out ((ZW _ _).alloc (ZL _) (C_ (evArr e) 89));have eB:=dM.le;obtain⟨dw,dO⟩:=ZH2 dM gZ;clear dM gZ;go_wp2_with (at_builtin;refine Zc _ rfl (.tmp 20) (.tmp 22) _ rfl w.heap.size 89 i0 _ 12 112 underlying128 hi dd cV dc rfl ZO (S_ aa ((l.take q).filter p).length fC) ((l.take q).filter p).length (evCells ((l.take q).filter p)) rfl dO.out (wr.heap.size+1+1) (some ⟨wr.heap.size+1,0,none⟩) 1 1 (evArr e).toList rfl (Zej _ _ _) (ZaT e) ZF ZO eB ?_;intro v7 w7 cF db ey)
    have it:w7.ownsRow w.heap.size 89 12 v7 ((l.take (q+1)).filter p).length (evCells ((l.take (q+1)).filter p)):=by rw[fy.out];exact RowE.snoc cF
    have iV:K_ w w7:=⟨dw.out.below.grown db dw.out.le (λg hg=>(Zb dO.out hg).1),ZT dw.out.le db.size⟩;obtain⟨iG,fx⟩:=ZH2 it iV;go_wp2
    go_roundw
    case rel=>exact⟨q+1,ZO,ZN,iG,fx⟩
    case measure=>simp[intOf];omega
   ·have l7:((e.kind:Int)==1)=false:=ZP;have da:=ZH dI;clear dI;go_wp2_with fail;refine KM.out.mono ?_;rintro _ w3 ⟨rfl,cG⟩;have kD:=oL.out.ob cG;obtain⟨x0,x1,x2,x3,x4,x5,x6,x7,x8,x9,fh,fi⟩:=kD.ag;have ko:=kD.lt;obtain⟨cU,iR⟩:=ZH2 (cO.out.step cG) (Ze iX.out cG);clear cG kD;rcases gV:Zch l e with _|_
    ·have hp:¬p e=true:=by rw[HP.out];simp[da.out,gV]
     rw[ZPn hp,List.append_nil]at fy;go_wp2
     go_roundw
     case rel=>exact⟨q+1,ZO,ZN,by rw[fy.out];exact iR,cU⟩
     case measure=>simp[intOf];omega
    ·have hp:p e=true:=by rw[HP.out];simp[gV]
     rw[ZPp hp]at fy;have dM:=cU.out.alloc (C_ (evArr e) 89);have gZ:=Ze iR.out ((ZW w3.heap.size w3).alloc (ZL _) (C_ (evArr e) 89));have eB:=dM.le;obtain⟨dw,dO⟩:=ZH2 dM gZ;clear dM gZ;go_wp2_with (at_builtin;refine Zc _ rfl (.tmp 20) (.tmp 22) _ rfl w.heap.size 89 i0 _ 12 112 underlying128 hi dd cV dc rfl ZO (S_ aa ((l.take q).filter p).length fC) ((l.take q).filter p).length (evCells ((l.take q).filter p)) rfl dO.out (w3.heap.size+1) (some ⟨w3.heap.size,0,none⟩) 1 1 (evArr e).toList rfl (Zcj w3 e) (ZaT e) ZF ZO eB ?_;intro v7 w7 cF db ey)
     have it:w7.ownsRow w.heap.size 89 12 v7 ((l.take (q+1)).filter p).length (evCells ((l.take (q+1)).filter p)):=by rw[fy.out];exact RowE.snoc cF
     have iV:K_ w w7:=⟨dw.out.below.grown db dw.out.le (λg hg=>(Zb dO.out hg).1),ZT dw.out.le db.size⟩;obtain⟨iG,fx⟩:=ZH2 it iV;go_wp2
     go_roundw
     case rel=>exact⟨q+1,ZO,ZN,iG,fx⟩
     case measure=>simp[intOf];omega
  ·obtain rfl:q=n:=ZO;have gN:l.take q=l:=ZU (by rw[HL.out];exact ZL _);rw[gN]at HO;obtain⟨aa,fC,rfl,_⟩:=EvSl.ae HO.out;go_wp2
   go_ret;exact⟨_,rfl,HO.out,HK.out.below⟩
theorem ZdB{l:List Ev}(h:EvSl w a n cap l)(hn:n<=1000000)(hr:∀x∈l,x.r<5)(e0:Ev)(k F:Nat)(nm:Array Value)(same:Ev->Bool)(lO:∀args W,(callFunc F args).run prog W=.ok (.enter F args) W)
  (fg:∀W e,e∈l->L_ w W->Calls prog F (#[Zaj e]++nm) W (Zx (B_ (same e)) W)) :
  Calls prog 194 #[S_ a n cap,Zaj e0,I_ J_ k,.func (.func F) #[] nm] w (ZeK (ZaQ l e0 k same) w):=by
 obtain⟨p,iu⟩:∃p:Ev->Bool,p=Zg3 e0 k same:=⟨_,rfl⟩;have e9:ZaQ l e0 k same=l.filter p:=by rw[iu];rfl
 rw[e9];have HP:=ZH iu;clear iu e9;have HL:=ZH (h.2.2.1);obtain⟨i0,hi,dd,cV,dc⟩:=info_parts ZbV;have cP:=(ZW w.heap.size w).alloc (ZL _) (C_ (evArr e0) 89);obtain⟨HS,HE,eh,HR⟩:=ZH4 (ZBn w 89 (evArr e0)) (h.below cP) cP hr;have Gy:∀W e,e∈l->Below (w.alloc (C_ (evArr e0) 89)).heap.size (w.alloc (C_ (evArr e0) 89)) W->Calls prog F (#[Zaj e]++nm) W (Zx (B_ (same e)) W) :=
  λW e he hW=>fg W e he (cP.trans (hW.mono cP.size))
 clear h hr fg;go_enter func194,ntmps194;go_wp2_with fail;generalize w.alloc (C_ (evArr e0) 89)=w1 at *;have tC:=ZH Gy;have HO:Hid (w1.ownsRow w1.heap.size 89 12 (S_ none 0 0) ((l.take 0).filter p).length (evCells ((l.take 0).filter p))):=ZH ⟨rfl,.inl ⟨rfl,rfl⟩⟩;have HK:=ZH (ZKr w1);clear cP Gy;go_loopw [9,14] (λv i wr=>∃q:Nat,q<=n/\i=I_ J_ q/\Hid (wr.ownsRow w1.heap.size 89 12 v ((l.take q).filter p).length (evCells ((l.take q).filter p)))/\Hid (K_ w1 wr)) (λ_ i _=>n-(intOf i).toNat)
 case atStart=>exact⟨0,Nat.zero_le _,rfl,HO,HK⟩
 case round =>
  skip
  obtain⟨q,hq,rfl,HO,HK⟩:=hrel;by_cases du:q<n
  ·obtain⟨e,he⟩:∃e,l[q]? = some e:=⟨_,ZX (by rw[HL.out];exact du)⟩;have hs:=HE.out.of_same (w':=wr) (λad _ hl=>HK.out.below.block _ hl) HK.out.le;obtain⟨bk,off,rfl,cW,c0,c1,c2,c3,c4,c5,c6,c7,c8,c9,dg,dh⟩:=hs.at_ he;have iC:=Zd2 p (l.take q) e;rw[←Zan he]at iC;have sw:((l.take q).filter p).length<=1000000:=by
    have h1:=List.length_filter_le p (l.take q);rw[ZV]at h1;omega
   obtain⟨aa,fC,rfl,_⟩:=EvSl.ae HO.out;have cX:=HK.out.alloc (C_ (evArr e) 89);have fQ:=(ZW wr.heap.size wr).alloc (ZL _) (C_ (evArr e) 89);obtain⟨iX,oL⟩:=ZH2 (Ze HO.out fQ) (ZBn wr 89 (evArr e));have fB:Hid (Blk (wr.alloc (C_ (evArr e) 89)) w.heap.size 89 (evArr e0)):=ZH (HS.out.below cX.below HS.out.lt);obtain⟨yO,rh,fy,cO⟩:=ZH4 (tC.out (wr.alloc (C_ (evArr e) 89)) e (ZY he) cX.below) (λW=>Zf1 e e0 W (HR.out e (ZY he))) iC cX;clear hs he iC cX fQ;by_cases dI:e.kind=k
   ·have l7:((e.kind:Int) != (k:Int))=false:=by simp[dI]
    have da:=ZH dI;clear dI;go_wp2_with fail;refine yO.out.mono ?_;rintro _ w3 ⟨rfl,cG⟩;have kD:=oL.out.ob cG;have oN:=fB.out.ob cG;obtain⟨x0,x1,x2,x3,x4,x5,x6,x7,x8,x9,fh,fi⟩:=kD.ag;obtain⟨y0,y1,y2,y3,y4,y5,y6,y7,y8,y9,WG,WH⟩:=oN.ag;have ko:=kD.lt;have zT:=oN.lt;obtain⟨cU,iR,ro⟩:=ZH3 (cO.out.step cG) (Ze iX.out cG) kD;clear cG kD oN;rcases cY:same e with _|_
    ·have hp:p e=true:=by rw[HP.out];simp[Zg3,cY]
     rw[ZPp hp]at fy;have dM:=cU.out.alloc (C_ (evArr e) 89);have gZ:=Ze iR.out ((ZW w3.heap.size w3).alloc (ZL _) (C_ (evArr e) 89));have eB:=dM.le;obtain⟨dw,dO⟩:=ZH2 dM gZ;clear dM gZ;go_wp2_with (at_builtin;refine Zc _ rfl (.tmp 34) (.tmp 36) _ rfl w1.heap.size 89 i0 _ 12 112 underlying128 hi dd cV dc rfl ZO (S_ aa ((l.take q).filter p).length fC) ((l.take q).filter p).length (evCells ((l.take q).filter p)) rfl dO.out (w3.heap.size+1) (some ⟨w3.heap.size,0,none⟩) 1 1 (evArr e).toList rfl (Zcj w3 e) (ZaT e) ZF ZO eB ?_;intro v7 w7 cF db ey)
     have it:w7.ownsRow w1.heap.size 89 12 v7 ((l.take (q+1)).filter p).length (evCells ((l.take (q+1)).filter p)):=by rw[fy.out];exact RowE.snoc cF
     have iV:K_ w1 w7:=⟨dw.out.below.grown db dw.out.le (λg hg=>(Zb dO.out hg).1),ZT dw.out.le db.size⟩;obtain⟨iG,fx⟩:=ZH2 it iV;go_wp2
     go_roundw
     case rel=>exact⟨q+1,ZO,ZN,iG,fx⟩
     case measure=>simp[intOf];omega
    ·go_wp2_with fail;refine(rh.out _).mono ?_;rintro _ w4 ⟨rfl,cS⟩;clear x0 x1 x2 x3 x4 x5 x6 x7 x8 x9 fh fi y0 y1 y2 y3 y4 y5 y6 y7 y8 y9 WG WH ko zT;have pn:=ro.out.ob cS;obtain⟨x0,x1,x2,x3,x4,x5,x6,x7,x8,x9,fh,fi⟩:=pn.ag;have ko:=pn.lt;obtain⟨fN,te⟩:=ZH2 (cU.out.step cS) (Ze iR.out cS);clear cS pn;rcases tk:e.below e0 with _|_
     ·have hp:p e=true:=by rw[HP.out];simp[Zg3,tk]
      rw[ZPp hp]at fy;have dM:=fN.out.alloc (C_ (evArr e) 89);have gZ:=Ze te.out ((ZW w4.heap.size w4).alloc (ZL _) (C_ (evArr e) 89));have eB:=dM.le;obtain⟨dw,dO⟩:=ZH2 dM gZ;clear dM gZ;go_wp2_with (at_builtin;refine Zc _ rfl (.tmp 34) (.tmp 36) _ rfl w1.heap.size 89 i0 _ 12 112 underlying128 hi dd cV dc rfl ZO (S_ aa ((l.take q).filter p).length fC) ((l.take q).filter p).length (evCells ((l.take q).filter p)) rfl dO.out (w4.heap.size+1) (some ⟨w4.heap.size,0,none⟩) 1 1 (evArr e).toList rfl (Zcj w4 e) (ZaT e) ZF ZO eB ?_;intro v7 w7 cF db ey)
      have it:w7.ownsRow w1.heap.size 89 12 v7 ((l.take (q+1)).filter p).length (evCells ((l.take (q+1)).filter p)):=by rw[fy.out];exact RowE.snoc cF
      have iV:K_ w1 w7:=⟨dw.out.below.grown db dw.out.le (λg hg=>(Zb dO.out hg).1),ZT dw.out.le db.size⟩;obtain⟨iG,fx⟩:=ZH2 it iV;go_wp2
      go_roundw
      case rel=>exact⟨q+1,ZO,ZN,iG,fx⟩
      case measure=>simp[intOf];omega
     ·have hp:¬p e=true:=by rw[HP.out];simp[Zg3,tk,cY,da.out]
      rw[ZPn hp,List.append_nil]at fy;go_wp2
      go_roundw
      case rel=>exact⟨q+1,ZO,ZN,by rw[fy.out];exact te,fN⟩
      case measure=>simp[intOf];omega
   ·have l7:((e.kind:Int) != (k:Int))=true:=ZP;have hp:p e=true:=by rw[HP.out];simp[Zg3,dI]
    rw[ZPp hp]at fy;clear dI;have dM:=cO.out.alloc (C_ (evArr e) 89);have gZ:=Ze iX.out ((ZW _ _).alloc (ZL _) (C_ (evArr e) 89));have eB:=dM.le;obtain⟨dw,dO⟩:=ZH2 dM gZ;clear dM gZ;go_wp2_with (at_builtin;refine Zc _ rfl (.tmp 34) (.tmp 36) _ rfl w1.heap.size 89 i0 _ 12 112 underlying128 hi dd cV dc rfl ZO (S_ aa ((l.take q).filter p).length fC) ((l.take q).filter p).length (evCells ((l.take q).filter p)) rfl dO.out (wr.heap.size+1+1) (some ⟨wr.heap.size+1,0,none⟩) 1 1 (evArr e).toList rfl (Zej _ _ _) (ZaT e) ZF ZO eB ?_;intro v7 w7 cF db ey)
    have it:w7.ownsRow w1.heap.size 89 12 v7 ((l.take (q+1)).filter p).length (evCells ((l.take (q+1)).filter p)):=by rw[fy.out];exact RowE.snoc cF
    have iV:K_ w1 w7:=⟨dw.out.below.grown db dw.out.le (λg hg=>(Zb dO.out hg).1),ZT dw.out.le db.size⟩;obtain⟨iG,fx⟩:=ZH2 it iV;go_wp2
    go_roundw
    case rel=>exact⟨q+1,ZO,ZN,iG,fx⟩
    case measure=>simp[intOf];omega
  ·obtain rfl:q=n:=ZO;have gN:l.take q=l:=ZU (by rw[HL.out];exact ZL _);rw[gN]at HO;obtain⟨aa,fC,rfl,_⟩:=EvSl.ae HO.out;have pW:=eh.out.size;go_wp2
   go_ret;exact⟨_,rfl,Zj HO.out pW,eh.out.trans (HK.out.below.mono pW)⟩
def Zdt(e:Ev)(a:Ev):Bool:=decide (a.label=e.label)
def Zb6(e:Ev)(a:Ev):Bool:=decide (a.label=e.label)&&decide (a.value=e.value)
def Z1(l:List Ev)(e:Ev):List Ev :=
 if e.kind=1 then l++[e] else if e.kind=2 then ZfL (ZaQ l e 1 (λ_=>true)) else if e.kind=3 then(if Zch l e=true then ZaQ l e 3 (Zdt e)++[e] else l)
 else if e.kind=5 then ZaQ l e 4 (Zb6 e) else(if Zch l e=true then ZaQ l e 4 (Zb6 e)++[e] else l)
theorem ZrG(w:World)(a:Ev):Calls prog 195 #[Zaj a] w (Zx (B_ true) w):=by
 go_enter func195,ntmps195;go_wp2
 go_ret;exact⟨rfl,(ZW _ _).alloc (ZL _) _⟩
theorem ZlG{pe:Nat}(he:Blk w pe 89 (evArr e))(a:Ev):
  Calls prog 197 #[Zaj a,P_ (some ⟨pe,0,none⟩)] w (Zx (B_ (Zdt e a)) w):=by
 have eS:=(ZW w.heap.size w).alloc (ZL _) (C_ (evArr a) 89);have fR:=he.ob eS;obtain⟨e0,e1,e2,e3,e4,e5,e6,e7,e8,e9,jj,jI⟩:=fR.ag;have eE:=he.lt;have HB:=ZH eS;clear he fR eS;go_enter func197,ntmps197;go_wp2
 go_ret;exact⟨by simp[Zdt,ZhH],HB.out⟩
theorem Zii{pe:Nat}(he:Blk w pe 89 (evArr e))(a:Ev):
  Calls prog 198 #[Zaj a,P_ (some ⟨pe,0,none⟩)] w (Zx (B_ (Zb6 e a)) w):=by
 have eS:=(ZW w.heap.size w).alloc (ZL _) (C_ (evArr a) 89);have fR:=he.ob eS;obtain⟨e0,e1,e2,e3,e4,e5,e6,e7,e8,e9,jj,jI⟩:=fR.ag;have eE:=he.lt;have HB:=ZH eS;clear he fR eS;go_enter func198,ntmps198;by_cases hk:a.label=e.label
 ·have cX:((a.label:Int)==(e.label:Int))=true:=by simp[hk]
  have kH:=ZH hk;clear hk;go_wp2
  go_ret;exact⟨by simp[Zb6,kH.out,Zcq],HB.out⟩
 ·have cX:((a.label:Int)==(e.label:Int))=false:=ZP;have kH:=ZH hk;clear hk;go_wp2
  go_ret;exact⟨by simp[Zb6,kH.out],HB.out⟩
end Go.Proofs.YtjkfognelhiepaaGreat
