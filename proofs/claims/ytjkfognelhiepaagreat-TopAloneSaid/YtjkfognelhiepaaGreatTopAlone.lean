/- TopAlone: for every input the law returns true and leaves its arguments as they were. No condition. -/
import Derived.Test.YtjkfognelhiepaaGreatA01
import Derived.Test.YtjkfognelhiepaaGreatA02
import Derived.Test.YtjkfognelhiepaaGreatChecked
namespace Go.Proofs.YtjkfognelhiepaaGreat
open Go.RowKit _root_.Go.Proofs.Tryz
set_option maxRecDepth 100000
set_option maxHeartbeats 8000000
theorem nw2:¬ Zp 2001 0:=λ h=>absurd h.1 ZJ
theorem ZtC:∀ n,Zp 1 n->¬ Zp 2001 n:=λ n h g=>by have h1:=h.2;have h2:=g.1;omega
theorem ZtH:∀ n,Zp 2001 n->¬ Zp 1 n:=λ n h g=>by have h1:=h.1;have h2:=g.2;omega
theorem ConRows.a8(B:Nat)(w:World):ConRows B w (.slice none 0 0) []:=⟨⟨rfl,.inl ⟨rfl,rfl⟩⟩,ZM,ZM⟩
theorem ConRows.under{B:Nat}{w w':World}{v:Value}{ps:List (Con × Value × Value)}(h:ConRows B w v ps)(hb:Below w.heap.size w w'):ConRows B w' v ps:=⟨Ze h.row hb,λ q hq=>Ze (h.s0 q hq) hb,λ q hq=>Ze (h.s1 q hq) hb⟩
theorem ListPost.a9{s:NodeSt}{w w':World}{e:Ending}(h:ListPost s w e w'):∃ v ps,e = .returned (.tuple #[v,.int .i64 (if s.up=true then 0 else 18)])/\ConRows w.heap.size w' v ps/\ps.map (·.1)=(if s.up=true then listN s.book else [])/\Below w.heap.size w w':=by
 unfold ListPost at h;split at h
 ·rename_i hu;obtain⟨v,rfl,hb⟩:=h;obtain⟨v',ps,h1,h2,h3,h4⟩:=hb;injection h1 with h1;subst h1;exact⟨v,ps,by rw[if_pos hu],h3,by rw[if_pos hu];exact h2,h4⟩
 ·rename_i hu;obtain⟨rfl,hb⟩:=h;exact⟨_,[],by rw[if_neg hu],ConRows.a8 _ _,by rw[if_neg hu];rfl,hb⟩
theorem Zth{w:World}{a:Option Addr}{n cap:Nat}{ss:List RawSt}(x0 x1 x2 x3 x4 x5:Int)(hr:Reads w w.heap.size 10 a n (ss.flatMap Zdi))(hn:n=ss.length)(aQ:∀ s∈ss,RawOk s)(bU:n<9223372036854775807):
  Calls prog 3 #[.agg #[.int .i64 x0,.int .i64 x1,.int .i64 x2,.int .i64 x3,.int .i64 x4,.int .i64 x5],.slice a n cap] w λ e w'=>e = .returned (.bool true)/\Below w.heap.size w w':=by
 have cV:=ZH ((ZKr w).alloc (.cells #[.int .i64 x0,.int .i64 x1,.int .i64 x2,.int .i64 x3,.int .i64 x4,.int .i64 x5] 23));have al:=ZBn w 23 #[.int .i64 x0,.int .i64 x1,.int .i64 x2,.int .i64 x3,.int .i64 x4,.int .i64 x5];obtain⟨HR,HN,co,cP⟩:=ZH4 hr hn aQ al;clear hr hn aQ al;go_enter func3,ntmps3;go_wp2_with fail;refine(ZsN _).mono ?_;rintro _ w1 ⟨rfl,af⟩;have aU:=ZH (cV.out.step af);have cu:=cP.out.ob af;obtain⟨c0,c1,c2,c3,c4,c5⟩:=cu.aS;have ai:=cu.lt;clear af cu cV cP;go_wp2_with fail;refine(ZsY x0 x1 x2 x3 x4 x5 w1).mono ?_;rintro _ w2 ⟨rfl,aL⟩;have aQ:=ZsU x0 x1 x2 x3 x4 x5;obtain⟨c,hc⟩:∃ c,c=Znt x0 x1 x2 x3 x4 x5:=⟨_,rfl⟩;rw[←hc] at aQ ⊢;obtain⟨ac,ah⟩:=ZH2 aQ (aU.out.step aL);have cf:Blk ((w2.alloc (.cells Zs0 23)).setRow w2.heap.size (Zal c)) w2.heap.size 23 (Zal c):=(ZBn w2 23 Zs0).row _;have dl:=((ZKr w2).alloc (.cells Zs0 23)).row (ZL _) (Zal c);clear aL hc aQ aU c0 c1 c2 c3 c4 c5 ai;obtain⟨c0,c1,c2,c3,c4,c5⟩:=cf.aS;have dQ:=cf.lt;obtain⟨cj,aV⟩:=ZH2 cf (ah.out.trans dl ah.out.le);clear cf dl ah
 go_wp2_with (first
  |(refine Zy rfl 23 rfl Zs0 ZK ?_)
  |(refine wpList_store_row rfl 23 (.tmp 6) (.tmp 22) rfl w2.heap.size (Zal c) rfl rfl 23 Zs0 (ZBn w2 23 _) (ZsP c) rfl (ZsS c) ?_))
 refine(ZpY (own:=own0) (t:=1) ZO (λ _ _=>rfl) ac.out).mono ?_;rintro _ w3 ⟨p,b9,rfl,dy,b8⟩;have aB:Blk w3 w2.heap.size 23 (Zal c):=cj.out.upd b8 (show ¬ Zp 1 (own0 w2.heap.size) from nw0);have bx:b9 w2.heap.size=0:=b8.old _ cj.out.lt;obtain⟨b6,dg⟩:∃ b6,b6=w2.heap.size:=⟨_,rfl⟩;rw[←dg] at aB bx ⊢;obtain⟨bg,cS⟩:=ZH2 (In.new ZO aV.out dy b8) (b8.fresh);have cE:=aB.lt;obtain⟨bf,bn⟩:=ZH2 aB bx;clear dy b8 dg bx cj aV c0 c1 c2 c3 c4 c5 dQ;obtain⟨c0,c1,c2,c3,c4,c5⟩:=aB.aS;clear aB;go_wp2_with fail;refine(ZpY (own:=b9) (t:=2001) ZO cS.out ac.out).mono ?_;rintro _ w4 ⟨p2,bD,rfl,dz,bK⟩;have aM:=bf.out.upd bK (by rw[bn.out];exact nw2);have bT:=ZH ((bK.old _ bf.out.lt).trans bn.out);have aK:Hid (In bD 1 w w4 p c 0 ⟨λ _=>0,λ _=>0⟩ (Zfe c)):=ZH (bg.out.other ac.out bK ZtC nw2);have bO:Hid (In bD 2001 w w4 p2 c 0 ⟨λ _=>0,λ _=>0⟩ (Zfe c)):=ZH ⟨dz,WInv.new c,bg.out.upd.trans (bK.mono λ n hn=>show n≠0 by have:=hn.1;omega)⟩;obtain⟨bM,cT⟩:=ZH2 aM bK.fresh;clear c0 c1 c2 c3 c4 c5 cE;obtain⟨c0,c1,c2,c3,c4,c5⟩:=aM.aS;have cE:=aM.lt;clear dz bK aM bf bn cS bg;go_wp2_with fail;have bY:=(HR.out.below aK.out.all).more (B':=w4.heap.size) aK.out.all.size;refine(Ztt bY HN.out co.out ac.out.n1 ac.out.n5 bU).mono ?_;rintro _ w5 ⟨v,rfl,bA,ce⟩;have bB:=Zts ac.out co.out;have cL:=Ztr c.n ss;obtain⟨l0,dm⟩:∃ l0,l0=Zs4 c.n ss:=⟨_,rfl⟩;rw[←dm] at bA bB cL;have bw:=Loc.make bM.out bT.out cT.out bA ce;obtain⟨aT,aq⟩:=ZH2 (aK.out.below ac.out ce) (bO.out.below ac.out ce);obtain⟨av,cv,rfl⟩:=bw.slice;obtain⟨an,cp⟩:=ZH2 bw bB;clear bA ce dm bw bB bY aK bO bM bT cT HR HN co c0 c1 c2 c3 c4 c5 cE;go_wp2_with fail;go_loopw [12] (λ i wr=>∃ (q:Nat) (own:Own) (q1:Nat) (B:Bd) (x:WS) (q2:Nat) (B2:Bd) (y:WS),q<=l0.length/\i = .int .i64 q/\Hid (q1<=q/\q2<=q)/\Hid (In own 1 w wr p c q1 B x)/\Hid (In own 2001 w wr p2 c q2 B2 y)/\Hid (Loc own wr b6 c 0 (.slice av l0.length cv) l0)/\Hid (x.nodes 0=y.nodes 0)) (λ i _=>l0.length-(intOf i).toNat)
 case atStart=>exact⟨0,bD,0,_,_,0,_,_,ZO,rfl,ZH ⟨ZL _,ZL _⟩,aT,aq,an,ZH rfl⟩
 case round =>
  clear aT aq an;obtain⟨q,own,q1,B,x,q2,B2,y,hq,rfl,HQ,aT,aq,an,bN⟩:=hrel;by_cases bc:q<l0.length
  ·obtain⟨s,ch⟩:∃ s,l0[q]? = some s:=⟨_,ZX bc⟩;have bE:=ZH (cp.out s (ZY ch));obtain⟨g,cap2,hv,aN,hc⟩:=an.out.step ch;obtain rfl:av=some ⟨g,0,none⟩:=by injection hv
   have d0:=hc 0 _ rfl;have d1:=hc 1 _ rfl;have d2:=hc 2 _ rfl;have d3:=hc 3 _ rfl;have d4:=hc 4 _ rfl;have d5:=hc 5 _ rfl;have d6:=hc 6 _ rfl;have d7:=hc 7 _ rfl;have d8:=hc 8 _ rfl;have d9:=hc 9 _ rfl;simp only[Nat.add_zero] at d0;have dH:=ZH ch;clear ch hv hc;by_cases cd:4<=s.kind/\s.kind<=7
   ·obtain⟨h4,h7⟩:=cd;go_wp2
    go_roundw
    case rel=>exact⟨q+1,own,q1,B,x,q2,B2,y,ZO,ZN,ZH ⟨by have:=HQ.out.1;omega,by have:=HQ.out.2;omega⟩,aT,aq,an,bN⟩
    case measure=>simp[intOf];omega
   ·by_cases h4:4<=s.kind
    focus
     have dL:¬ s.kind<=7:=λ h=>cd ⟨h4,h⟩
    rotate_left
    focus
     have dL:s.kind<=7:=ZO
    rotate_left
    all_goals
     have h7:s.kind≠7:=ZO;have cY:Hid (¬ (4<=s.kind/\s.kind<=7)):=ZH (cd);have H7:=ZH h7;clear cd h7;go_wp2_with fail;refine(aT.out.bH ZO ac.out (by have:=HQ.out.1;omega) bE.out).mono ?_;intro e6 w6 hp;obtain⟨tb,own6,B6,b7,rfl,aO,cM,_,_⟩:=aT.out.step ZO ac.out (by have:=HQ.out.1;omega) bE.out hp;have bZ:Zu s tb=s:=by unfold Zu;rw[b7 H7.out]
     rw[bZ] at aO ⊢;have ax:=ZH (aq.out.other ac.out cM ZtH nw0);have aE:=an.out.upd cM nw0 nw0;have bz:=Ztg (c:=c) (x:=x) cY.out;have aR:=Ztn (c:=c) (x:=x) (y:=y) (s:=s) cY.out;obtain⟨x6,dA⟩:∃ x6,x6=(Zab c x s).1:=⟨_,rfl⟩;obtain⟨k6,dk⟩:∃ k6,k6=(Zab c x s).2:=⟨_,rfl⟩;rw[←dA] at aO bz aR;rw[←dk] at aR ⊢;clear hp b7 cM bZ dA dk d0 d1 d2 d3 d4 d5 d6 d7 d8 d9 aN;obtain⟨g',cap3,dx,dP,aC⟩:=aE.step dH.out;obtain rfl:g'=g:=by
      injection dx with h1
      injection h1 with h1
      injection h1 with h1
      exact h1.symm
     have d0:=aC 0 _ rfl;have d1:=aC 1 _ rfl;have d2:=aC 2 _ rfl;have d3:=aC 3 _ rfl;have d4:=aC 4 _ rfl;have d5:=aC 5 _ rfl;have d6:=aC 6 _ rfl;have d7:=aC 7 _ rfl;have d8:=aC 8 _ rfl;have d9:=aC 9 _ rfl;simp only[Nat.add_zero] at d0;obtain⟨aJ,ap,bo,bq⟩:=ZH4 aO aE bz aR;clear aO aE bz aR dx aC aT aq an;by_cases bI:s.r=0;focus
      have H0:=ZH bI;have al:((s.r:Int)==0)=true:=by rw[bI];rfl
      clear bI;go_wp2_with fail;refine(ax.out.bH ZO ac.out (by have:=HQ.out.2;omega) bE.out).mono ?_;intro e7 w7 hp;obtain⟨ea,own7,B7,b7,rfl,bv,cN,_,_⟩:=ax.out.step ZO ac.out (by have:=HQ.out.2;omega) bE.out hp;have bZ:Zu s ea=s:=by unfold Zu;rw[b7 H7.out]
      rw[bZ] at bv ⊢;obtain⟨dn,di⟩:=bq.out H0.out ac.out.n1 bN.out;rw[←di];obtain⟨am,bm,aA,aH⟩:=ZH4 (aJ.out.other ac.out cN ZtC nw2) bv (ap.out.upd cN nw2 nw2) dn;clear hp b7 bv cN bZ dn di d0 d1 d2 d3 d4 d5 d6 d7 d8 d9 dP aJ ax ap bo bq bN H0 al
     rotate_left
     focus
      have H0:=ZH bI;have al:((s.r:Int)==0)=false:=ZP;have aH:=ZH ((bo.out bI).trans bN.out);have am:=aJ;have bm:=ax;have aA:=ap;clear bI aJ ax ap bo bq bN H0
     rotate_left
     all_goals
      go_wp2_with fail;refine(Zox (r:=0) am.out.at_ am.out.fresh am.out.inv ac.out (by have:=HQ.out.1;omega) ac.out.n1).mono ?_;intro e9 w9 bX;obtain⟨v1,ps1,rfl,dr,cG,ae⟩:=bX.a9;obtain⟨E,hE⟩:∃ E:Int,E=(if (x6.nodes 0).s.up=true then 0 else 18):=⟨_,rfl⟩;rw[←hE];have HE:=ZH hE;clear hE;obtain⟨bh,ay,aW,da,cX⟩:=ZH5 (am.out.below ac.out ae) (bm.out.below ac.out ae) (aA.out.below am.out.fresh ae) dr cG;clear bX dr cG ae am bm aA;go_wp2_with fail;refine(Zox (r:=0) ay.out.at_ ay.out.fresh ay.out.inv ac.out (by have:=HQ.out.2;omega) ac.out.n1).mono ?_;intro e9 wt bX;obtain⟨v2,ps2,rfl,dt,cH,ae⟩:=bX.a9;rw[←aH.out] at cH ⊢;rw[←HE.out];obtain⟨bi,bP,aX,db⟩:=ZH4 (bh.out.below ac.out ae) (ay.out.below ac.out ae) (aW.out.below bh.out.fresh ae) (Ztl (da.out.under ae) dt (cX.out.trans cH.symm));clear bX dt cH ae HE da cX bh ay aW;go_wp2_with fail;refine db.out.mono ?_;rintro _ wu ⟨rfl,ae⟩;obtain⟨ar,bQ,aY⟩:=ZH3 (bi.out.below ac.out ae) (bP.out.below ac.out ae) (aX.out.below bi.out.fresh ae);clear ae db bi bP aX;go_wp2_with fail;refine(Zjg (r:=0) ar.out.at_ ar.out.fresh ar.out.inv ac.out (by have:=HQ.out.1;omega) ac.out.n1).mono ?_;rintro _ wv ⟨vh1,vl1,rfl,cg,ai,ae⟩;obtain⟨bj,az,aZ,cU,cW⟩:=ZH5 (ar.out.below ac.out ae) (bQ.out.below ac.out ae) (aY.out.below ar.out.fresh ae) cg ai;clear ae cg ai ar bQ aY;go_wp2_with fail;refine(Zjg (r:=0) az.out.at_ az.out.fresh az.out.inv ac.out (by have:=HQ.out.2;omega) ac.out.n1).mono ?_;rintro _ wx ⟨vh2,vl2,rfl,bW,ag,ae⟩;rw[←aH.out] at bW ag ⊢;obtain⟨bl,bR,ba,dc⟩:=ZH4 (bj.out.below ac.out ae) (az.out.below ac.out ae) (aZ.out.below bj.out.fresh ae) (Ztm (Zbz (x6.nodes 0).s).up (Zbz (x6.nodes 0).s).clk (Zbz (x6.nodes 0).s).sent (Ze cU.out ae) (Ze cW.out ae) bW ag rfl rfl);clear ae bW ag cU cW bj az aZ;generalize Zbz (x6.nodes 0).s=S at *;go_wp2_with fail;refine dc.out.mono ?_;rintro _ wy ⟨rfl,ae⟩;obtain⟨ck,cl,bS⟩:=ZH3 (bl.out.below ac.out ae) (bR.out.below ac.out ae) (ba.out.below bl.out.fresh ae);have hEE:(E==E)=true:=ZM;have hEN:(E != E)=false:=ZM;have hED:decide (E=E)=true:=ZM;clear ae dc bl bR ba;go_wp2
      go_roundw
      case rel=>exact⟨q+1,_,q1+1,_,x6,_,_,_,ZO,ZN,ZH ⟨by have:=HQ.out.1;omega,by have:=HQ.out.2;omega⟩,ck,cl,bS,aH⟩
      case measure=>simp[intOf];omega
  ·obtain rfl:q=l0.length:=ZO;go_wp2
   go_ret;exact⟨rfl,aT.out.all⟩
end Go.Proofs.YtjkfognelhiepaaGreat
namespace Go.Proofs.YtjkfognelhiepaaGreat.topAlone
open Go.RowKit _root_.Go.Proofs.Tryz
set_option maxRecDepth 100000
set_option maxHeartbeats 8000000
open Go.ChangeShapes Go.WideShapes Go.ChangeAt Go.RowKit
open Go.ChangeMaps (open_string shut_string)
theorem own_:ownKnob prog.godebug=none:=ZK
theorem laid_:laidOutB prog=true:=ZK
theorem lifted(os:Os)(started:os.Started)(H:Type)(enc:TypeId × Value->H):
  ReturnsInHanded {} checked os 3 .any (Rows.topAloneSpec.pre6 enc prog f3 Rows.topAloneRow.domain false) (Rows.topAloneSpec.post enc prog f3 false true false false):=by
 refine returnsInHanded_of_change_sized (C:=checked) own_ started ZK func3
  (ChangeSpec.witness6 (enc:=enc) (C:=checked) false ⟨#[],#[.agg #[.int .i64 0,.int .i64 0,.int .i64 0,.int .i64 0,.int .i64 0,.int .i64 0],.slice none 0 0],[]⟩ 8 ZK ZK ZK ZK) ?_
 intro W base args ds gs before bd hW hcnd dV _;have bC:∀ (j:Nat) t v,f3.params[j]? = some t->args[j]? = some v->Value.okWide prog W .any base t v:=bd;have dN:=hW;obtain⟨p,q,dd,hV,rfl,hfz,hnd⟩:=hW;have hA:DataW.TrodAll enc prog W 0 (λ _=>true) true f3.params.toList args.toList ds p:=dd;rw[params3] at hA bC;obtain⟨v0,vs0,d0,ds0,p0,q0,hargs,rfl,rfl,h0,r0⟩:=trodAll_cons hA;obtain⟨v1,vs1,d1,ds1,p1,q1,rfl,rfl,rfl,h1,r1⟩:=trodAll_cons r0;obtain⟨rfl,rfl,rfl⟩:=trodAll_nil r1;obtain rfl:args=#[v0,v1]:=by cases args;simp_all
 obtain⟨rfl,rfl⟩:=trodVars_none hV;have k0:=h0;have dY:∀ x∈p0,x.block<W.heap.size:=by obtain⟨m,hm⟩:=k0;exact DataW.trod_lt m _ _ _ hm
 have k1:=h1;have dZ:∀ x∈p1,x.block<W.heap.size:=by obtain⟨m,hm⟩:=k1;exact DataW.trod_lt m _ _ _ hm
 have cO:∀ m∈d1.weights prog 24,m<=reachBytes:=λ m hm=>of_decide_eq_true (List.all_eq_true.1 dV _ (DataW.weights_mem_each (j:=1) (by rw[params3];rfl) rfl m hm))
 obtain⟨x0,x1,x2,x3,x4,x5,rfl⟩:=ZsH (bC 0 23 _ rfl rfl) h0;obtain⟨a1,n1,c1,ss,rfl,dT,cI,cK,bV⟩:=ZsL (bC 1 24 _ rfl rfl) h1 cO;clear dd bd;refine(Zth x0 x1 x2 x3 x4 x5 cK dT cI bV).mono λ e W' ⟨he,ct⟩=>?_
 subst he;exact⟨_,rfl,_,_,_,[],_,[],dN,trodAll_mk1 (shut_bool underlying4 _),(trodAll_cons_mk (Below.trod laid_ ZK (of_decide_eq_true ZK) k0 ct dY) (trodAll_cons_mk (Below.trod laid_ ZK (of_decide_eq_true ZK) k1 ct dZ) trodAll_mk0)),rfl,ct.frame _,λ h=>by cases h⟩
theorem ZtD:Rows.topAloneRow.holds Tryz.pinned (OpenSpec.ofChange Rows.topAloneSpec) :=
 OpenClaim.holds_of_wide 3 f3 rfl rfl rfl rfl rfl rfl rfl ⟨rfl,rfl,rfl,rfl,rfl⟩ rfl rfl rfl rfl rfl ZK func3 ZK
  (of_decide_eq_true ZK) (by unfold Func.isWrapper;first|(rw[if_pos (by decide +kernel)];kernel_rfl)|(rw[if_neg (by decide +kernel)];exact⟨rfl,rfl⟩))
  (λ os started H enc _=>lifted os started H enc)
theorem proved:Rows.TopAloneSaid:=ZtD
end Go.Proofs.YtjkfognelhiepaaGreat.topAlone
namespace Go.Proofs.YtjkfognelhiepaaGreat
open Go.RowKit _root_.Go.Proofs.Tryz
set_option maxRecDepth 100000
set_option maxHeartbeats 8000000
end Go.Proofs.YtjkfognelhiepaaGreat
