/- TopEdits: for every input the law returns true and leaves its arguments as they were. No condition. -/
import Derived.Test.YtjkfognelhiepaaGreatE01
import Derived.Test.YtjkfognelhiepaaGreatE02
import Derived.Test.YtjkfognelhiepaaGreatChecked
namespace Go.Proofs.YtjkfognelhiepaaGreat
open Go.RowKit _root_.Go.Proofs.Tryz
set_option maxRecDepth 100000
set_option maxHeartbeats 8000000
theorem ListPost.told{s:NodeSt}{w w':World}{e:Ending}(h:ListPost s w e w'):∃ v ps,e = .returned (.tuple #[v,.int .i64 (if s.up=true then 0 else 18)])/\ConRows w.heap.size w' v ps/\ps.map (·.1)=(if s.up=true then listN s.book else [])/\Below w.heap.size w w':=by
 unfold ListPost at h;split at h
 ·rename_i hu;obtain⟨v,rfl,hb⟩:=h;obtain⟨v',ps,h1,h2,h3,h4⟩:=hb;injection h1 with h1;subst h1;exact⟨v,ps,by rw[if_pos hu],h3,by rw[if_pos hu];exact h2,h4⟩
 ·rename_i hu;obtain⟨rfl,hb⟩:=h;exact⟨_,[],by rw[if_neg hu],ConRows.nil _ _,by rw[if_neg hu];rfl,hb⟩
def AtRel(cs:List Con)(key:ByteArray)(k:Nat)(v:Value):Prop :=
 (v = .int .i64 (-1)/\∀ j C,j<k->cs[j]? = some C->C.key≠key)∨∃ j C,j<k/\v = .int .i64 (j:Nat)/\cs[j]? = some C/\C.key=key
theorem AtRel.no{cs:List Con}{key:ByteArray}{k:Nat}{v:Value}(h:AtRel cs key k v){C:Con}(hC:cs[k]? = some C)(hk:C.key≠key):AtRel cs key (k+1) v:=by
 rcases h with ⟨h1,h2⟩|⟨j,D,h1,h2,h3,h4⟩
 ·refine .inl ⟨h1,λ j D hj hD=>?_⟩;by_cases e:j=k
  ·subst e;rw[hC] at hD;injection hD with hD;subst hD;exact hk
  ·exact h2 j D ZO hD
 ·exact .inr ⟨j,D,ZO,h2,h3,h4⟩
theorem AtRel.yes{cs:List Con}{key:ByteArray}{k:Nat}{C:Con}(hC:cs[k]? = some C)(hk:C.key=key):AtRel cs key (k+1) (.int .i64 (k:Nat)) := .inr ⟨k,C,ZO,rfl,hC,hk⟩
def Zs7(v:ByteArray)(l:List ByteArray):Bool:=l.any λ z=>decide (z=v)
theorem Ztu{l:List ByteArray}{k:Nat}{z v:ByteArray}(h:l[k]? = some z):Zs7 v (l.take (k+1))=(Zs7 v (l.take k)||decide (z=v)):=by
 unfold Zs7;rw[List.take_add_one,h];simp
theorem ZtK{v:ByteArray}{l:List ByteArray}(h:v∈l):Zs7 v l=true:=by
 unfold Zs7;exact List.any_eq_true.2 ⟨v,h,ZM⟩
theorem ZtP{v:ByteArray}{l:List ByteArray}(h:v ∉ l):Zs7 v l=false:=by
 unfold Zs7;rw[List.any_eq_false];intro z hz e;exact h (by have:=of_decide_eq_true e;rw[←this];exact hz)
theorem ZtL{w:World}{B:Nat}{v:Value}{ps:List (Con × Value × Value)}(h:ConRows B w v ps){q:Nat}{p:Con × Value × Value}(hq:ps[q]? = some p){aH:Nat}(hl:aH<=1):
  ∃ g cap y j,v = .slice (some ⟨g,0,none⟩) ps.length cap/\g<w.heap.size/\w.cell? ⟨g,q*7+3+aH,none⟩=some (.string (if aH=0 then p.1.f0 else p.1.f1))/\w.cell? ⟨g,q*7+5+aH,none⟩=some (.slice y (if aH=0 then p.1.s0 else p.1.s1).length j) /\
   w.ownsRow B 9 1 (.slice y (if aH=0 then p.1.s0 else p.1.s1).length j) (if aH=0 then p.1.s0 else p.1.s1).length ((if aH=0 then p.1.s0 else p.1.s1).map Value.string):=by
 obtain⟨g,cap,y0,j0,y1,j1,hv,hg,_,_,_,a3,a4,a5,a6,r0,r1⟩:=Ztm h hq;rcases(by omega:aH=0∨aH=1) with rfl | rfl
 ·exact⟨g,cap,y0,j0,hv,hg,a3,a5,r0⟩
 ·exact⟨g,cap,y1,j1,hv,hg,a4,a6,r1⟩
abbrev Ztf:Array Value:=#[.int .i64 0,.string ⟨#[]⟩,.int .i64 0,.string ⟨#[]⟩]
def Zs6(s:St):Array Value:=#[.int .i64 s.ek,.string s.key,.int .i64 s.label,.string s.value]
theorem ZtB(s:St):(prog.info? 33).map (λ i=>i.size)=some (Zs6 s).size:=ZK
theorem ZtG(s:St):(Zs6 s).all (·.oneCell')=true:=ZK
theorem ZtD{w:World}{a:Option Addr}{n cap:Nat}{ss:List RawSt}(x0 x1 x2 x3 x4 x5:Int)(hr:Reads w w.heap.size 10 a n (ss.flatMap Zdi))(hn:n=ss.length)(aG:∀ s∈ss,RawOk s)(cc:n<9223372036854775807):
  Calls prog 5 #[.agg #[.int .i64 x0,.int .i64 x1,.int .i64 x2,.int .i64 x3,.int .i64 x4,.int .i64 x5],.slice a n cap] w λ e w'=>e = .returned (.bool true)/\Below w.heap.size w w':=by
 have ah:=(ZKr w).alloc (.cells #[.int .i64 x0,.int .i64 x1,.int .i64 x2,.int .i64 x3,.int .i64 x4,.int .i64 x5] 23);obtain⟨dt,HR,HN,cM,bZ⟩:=ZH5 (ZBn w 23 #[.int .i64 x0,.int .i64 x1,.int .i64 x2,.int .i64 x3,.int .i64 x4,.int .i64 x5]) hr hn aG ah;clear hr hn aG ah;go_enter func5,ntmps5;go_wp2_with fail;refine(ZsN _).mono ?_;rintro _ w1 ⟨rfl,ag⟩;have b7:=ZH (bZ.out.step ag);have cT:=dt.out.ob ag;obtain⟨c0,c1,c2,c3,c4,c5⟩:=cT.aS;have bg:=cT.lt;clear ag cT bZ dt;go_wp2_with fail;refine(ZsY x0 x1 x2 x3 x4 x5 w1).mono ?_;rintro _ w2 ⟨rfl,cW⟩;have aG:=ZsU x0 x1 x2 x3 x4 x5;obtain⟨c,hc⟩:∃ c,c=Znt x0 x1 x2 x3 x4 x5:=⟨_,rfl⟩;rw[←hc] at aG ⊢;obtain⟨af,an⟩:=ZH2 aG (b7.out.step cW);have cy:Blk ((w2.alloc (.cells Zs0 23)).setRow w2.heap.size (Zal c)) w2.heap.size 23 (Zal c):=(ZBn w2 23 Zs0).row _;have dQ:=((ZKr w2).alloc (.cells Zs0 23)).row (ZL _) (Zal c);clear cW hc aG b7 c0 c1 c2 c3 c4 c5 bg;obtain⟨c0,c1,c2,c3,c4,c5⟩:=cy.aS;have eE:=cy.lt;obtain⟨cJ,bj⟩:=ZH2 cy (an.out.trans dQ an.out.le);clear cy dQ an
 go_wp2_with (first
  |(refine Zy rfl 23 rfl Zs0 ZK ?_)
  |(refine wpList_store_row rfl 23 (.tmp 6) (.tmp 25) rfl w2.heap.size (Zal c) rfl rfl 23 Zs0 (ZBn w2 23 _) (ZsP c) rfl (ZsS c) ?_))
 refine(ZpY (own:=own0) (t:=1) ZO (λ _ _=>rfl) af.out).mono ?_;rintro _ w3 ⟨p,cr,rfl,eb,cn⟩;have aN:Blk w3 w2.heap.size 23 (Zal c):=cJ.out.upd cn (show ¬ Zp 1 (own0 w2.heap.size) from nw0);have bE:cr w2.heap.size=0:=cn.old _ cJ.out.lt;obtain⟨b6,dJ⟩:∃ b6,b6=w2.heap.size:=⟨_,rfl⟩;rw[←dJ] at aN bE ⊢;obtain⟨bd,dv⟩:=ZH2 (In.new ZO bj.out eb cn) (cn.fresh);have eD:=aN.lt;obtain⟨bX,b8⟩:=ZH2 aN bE;clear eb cn dJ bE cJ bj c0 c1 c2 c3 c4 c5 eE;obtain⟨c0,c1,c2,c3,c4,c5⟩:=aN.aS;clear aN;go_wp2_with fail;have cm:=(HR.out.below bd.out.all).more (B':=w3.heap.size) bd.out.all.size;refine(ZtO cm HN.out cM.out af.out.n1 af.out.n5 cc).mono ?_;rintro _ w4 ⟨v,rfl,bF,cX⟩;have bG:=ZtN af.out cM.out;have dm:=ZtM c.n ss;have bB:=ZtH af.out (ss:=ss);obtain⟨l0,bQ⟩:∃ l0,l0=Zs5 c.n ss:=⟨_,rfl⟩;rw[←bQ] at bF bG dm bB;have cK:=ZH bB;have bD:=Loc.make bX.out b8.out dv.out bF cX;have aA:=ZH (bd.out.below af.out cX);obtain⟨av,cv,rfl⟩:=bD.slice;obtain⟨ap,cO⟩:=ZH2 bD bG;clear bB bF cX bQ bD bG cm bd bX b8 dv HR HN cM c0 c1 c2 c3 c4 c5 eD;go_wp2_with fail;go_loopw [10] (λ i wr=>∃ (q:Nat) (own:Own) (B:Bd) (x:WS),q<=l0.length/\i = .int .i64 q/\Hid (In own 1 w wr p c q B x)/\Hid (Loc own wr b6 c 0 (.slice av l0.length cv) l0)) (λ i _=>l0.length-(intOf i).toNat)
 case atStart=>exact⟨0,cr,_,_,ZO,rfl,aA,ap⟩
 case round =>
  clear aA ap;obtain⟨q,own,B,x,hq,rfl,aA,ap⟩:=hrel;by_cases bS:q<l0.length
  ·obtain⟨s,bo⟩:∃ s,l0[q]? = some s:=⟨_,ZX bS⟩;obtain⟨aX,ee⟩:=ZH2 (cO.out s (ZY bo)) (cK.out s (ZY bo));obtain⟨g,cap2,hv,ar,hc⟩:=ap.out.step bo;obtain rfl:av=some ⟨g,0,none⟩:=by injection hv
   have d0:=hc 0 _ rfl;have d1:=hc 1 _ rfl;have d2:=hc 2 _ rfl;have d3:=hc 3 _ rfl;have d4:=hc 4 _ rfl;have d5:=hc 5 _ rfl;have d6:=hc 6 _ rfl;have d7:=hc 7 _ rfl;have d8:=hc 8 _ rfl;have d9:=hc 9 _ rfl;simp only[Nat.add_zero] at d0;have cN:=ZH bo;clear bo hv hc;by_cases ah:s.kind=0
   ·obtain⟨aL,bZ⟩:=ZH2 (ee.out ah) ah;have co:((s.kind:Int)==0)=true:=by rw[ah];rfl
    have bK:((s.kind:Int) != 0)=false:=by rw[ah];rfl
    have cp:(s.kind:Int)=0:=ZO;clear ah;go_wp2_with fail;refine(Zox aA.out.at_ aA.out.fresh aA.out.inv af.out ZO aL.out).mono ?_;intro e5 w5 dR;obtain⟨v1,dr,rfl,bT,dg,cY⟩:=dR.told;clear co bK cp;have ef:Hid (∀ g,wr.heap.size<=g->own g=0):=ZH aA.out.fresh;have be:=ZH (aA.out.below af.out cY);have aR:=ap.out.below aA.out.fresh cY;obtain⟨ba,dx⟩:=ZH2 bT dg;clear d0 d1 d2 d3 d4 d5 d6 d7 d8 d9 ar;obtain⟨g',b9,br,ar,ak⟩:=aR.step cN.out;obtain rfl:g=g':=by
     injection br with h1
     injection h1 with h1
     injection h1 with h1
    have d0:=ak 0 _ rfl;have d1:=ak 1 _ rfl;have d2:=ak 2 _ rfl;have d3:=ak 3 _ rfl;have d4:=ak 4 _ rfl;have d5:=ak 5 _ rfl;have d6:=ak 6 _ rfl;have d7:=ak 7 _ rfl;have d8:=ak 8 _ rfl;have d9:=ak 9 _ rfl;simp only[Nat.add_zero] at d0;have bl:=ZH aR;obtain⟨E1,dC⟩:∃ E1:Int,E1=(if (x.nodes s.r).s.up=true then 0 else 18):=⟨_,rfl⟩;rw[←dC];clear dC dR bT dg cY aR br ak aA ap;go_wp2_with fail;refine(be.out.bH ZO af.out ZO aX.out).mono ?_;intro e6 w6 hp;obtain⟨tb,az,B6,cE,rfl,ax,bV,_,_⟩:=be.out.step ZO af.out ZO aX.out hp;have bU:Zu s tb=s:=by unfold Zu;rw[cE (by rw[bZ.out];decide)]
    rw[bU] at ax ⊢;have aW:=be.out.inv.seen af.out ZO aX.out bZ.out aL.out;obtain⟨x6,dq⟩:∃ x6,x6=(Zab c x s).1:=⟨_,rfl⟩;obtain⟨bf,aO⟩:∃ bf,bf=(Zab c x s).2:=⟨_,rfl⟩;rw[←dq,←aO] at aW;rw[←dq] at ax;rw[←aO];obtain⟨am,bm⟩:=ZH2 ax aW;have cf:ConRows wr.heap.size w6 v1 dr:=by
     have hz:∀ g,wr.heap.size<=g->own g=0:=ef.out;have hk:∀ {e:TypeId} {sz n:Nat} {u:Value} {xs:List Value},w5.ownsRow wr.heap.size e sz u n xs->w6.ownsRow wr.heap.size e sz u n xs:=λ h=>Zh h λ g hg hl=>bV.same g hl (by rw[hz g (Zb h hg).1];exact nw0)
     exact⟨hk ba.out.row,λ q hq=>hk (ba.out.s0 q hq),λ q hq=>hk (ba.out.s1 q hq)⟩
    have aT:=bl.out.upd bV nw0 nw0;clear d0 d1 d2 d3 d4 d5 d6 d7 d8 d9 ar;obtain⟨g',b9,br,ar,ak⟩:=aT.step cN.out;obtain rfl:g=g':=by
     injection br with h1
     injection h1 with h1
     injection h1 with h1
    obtain⟨aC,bY⟩:=ZH2 aT cf;clear hp cE ax bV bU aW dq aO cf aT br ak ar be bl ba;go_wp2_with fail;refine(Zox am.out.at_ am.out.fresh am.out.inv af.out ZO aL.out).mono ?_;intro e7 w7 dS;obtain⟨v2,cH,rfl,dY,aI,cx⟩:=dS.told;have au:=ZH (am.out.below af.out cx);have aU:=aC.out.below am.out.fresh cx;obtain⟨bb,bu,cu⟩:=ZH3 (bY.out.below cx) dY aI;obtain⟨g',b9,br,ar,ak⟩:=aU.step cN.out;obtain rfl:g=g':=by
     injection br with h1
     injection h1 with h1
     injection h1 with h1
    have d2:=ak 2 _ rfl;have d3:=ak 3 _ rfl;have d4:=ak 4 _ rfl;have d5:=ak 5 _ rfl;have aD:=ZH aU;obtain⟨E2,dD⟩:∃ E2:Int,E2=(if (x6.nodes s.r).s.up=true then 0 else 18):=⟨_,rfl⟩;rw[←dD];clear dD dS dY aI cx aU br ak am aC bY;rcases bm.out with ⟨cz,cF,dp⟩|⟨eu,dL⟩|⟨hne,bp⟩
    ·subst cz;have aI:=cu.out;rw[if_pos cF] at aI;obtain⟨cs,dK⟩:∃ cs,cs=listN (x6.nodes s.r).s.book:=⟨_,rfl⟩;rw[←dK] at aI dp;have ay:cH.length=cs.length:=by rw[←aI];simp
     obtain⟨a2,k2,rfl⟩:=Zs bu.out.row;have dh:=Ztd bu.out.row;rw[ay] at dh;have cA:Kept w7.heap.size w7 ((w7.alloc (.cells Ztf 33)).setRow w7.heap.size (Zs6 s)):=((ZKr w7).alloc (.cells Ztf 33)).row (ZL _) _;have HX:Hid (Blk ((w7.alloc (.cells Ztf 33)).setRow w7.heap.size (Zs6 s)) w7.heap.size 33 (Zs6 s)):=ZH ((ZBn w7 33 Ztf).row _);obtain⟨aw,ai,aZ,du,dA,eh⟩:=ZH6 (au.out.below af.out cA.below) (aD.out.below au.out.fresh cA.below) (bu.out.below cA.below) aI dp ay;have bW:Hid (AtRel cs s.key 0 (.int .i64 (-1))):=ZH (.inl ⟨rfl,λ j C hj=>ZO⟩);clear aI dp dK ay cA cF bm dx cu bb au aD bu;rw[eh.out] at aZ ⊢
     go_wp2_with (first
      |(refine Zy rfl 33 rfl Ztf ZK ?_)
      |(refine wpList_store_row rfl 33 (.tmp 18) (.tmp 97) rfl w7.heap.size (Zs6 s) rfl rfl 33 Ztf (ZBn w7 33 _) (ZtB s) rfl (ZtG s) ?_))
     obtain⟨xb,ec⟩:∃ xb,xb=w7.heap.size:=⟨_,rfl⟩;obtain⟨W8,dG⟩:∃ W8,W8=(w7.alloc (.cells Ztf 33)).setRow w7.heap.size (Zs6 s):=⟨_,rfl⟩;rw[←dG] at aw ai aZ HX ⊢;rw[←ec] at HX ⊢;clear dG ec d2 d3 d4 d5 ar;have dw:=ZH (ZKr W8);go_loopw [19,20] (λ vt i eN=>∃ k:Nat,k<=cs.length/\i = .int .i64 k/\Hid (AtRel cs s.key k vt)/\Hid (Kept W8.heap.size W8 eN)) (λ _ i _=>cs.length-(intOf i).toNat)
     case atStart=>exact⟨0,ZO,rfl,bW,dw⟩
     case round =>
      clear bW dw;obtain⟨k,hk,rfl,bW,HK⟩:=hrel;have df:=(HX.out.ob HK.out.below).lt;have e0:=(HX.out.ob HK.out.below).cell 0;have e1:=(HX.out.ob HK.out.below).cell 1;have e2:=(HX.out.ob HK.out.below).cell 2;have e3:=(HX.out.ob HK.out.below).cell 3;simp only[Zs6,ZD,ZE,ZG] at e0 e1 e2 e3;by_cases cj:k<cs.length
      ·obtain⟨C,hC⟩:∃ C,cs[k]? = some C:=⟨_,ZX cj⟩;obtain⟨p2,cl,cC⟩:∃ p2,cH[k]? = some p2/\p2.1=C:=by
        have h1:=hC;rw[←du.out,List.getElem?_map] at h1;obtain⟨p2,h2,h3⟩:=Option.map_eq_some_iff.1 h1;exact⟨p2,h2,h3⟩
       obtain⟨g1,et,_,_,_,_,bq,bN,a0,_⟩:=Ztm (aZ.out.below HK.out.below) cl;obtain rfl:a2=some ⟨g1,0,none⟩:=by injection bq
       rw[cC] at a0;have HC:=ZH hC;clear hC cl bq;by_cases aQ:C.key=s.key
       ·rw[aQ] at a0;have bv:=ZH aQ;clear aQ;go_wp2_with fail;go_quiet (fail)
        go_wp2
        go_roundw
        case rel=>exact⟨k+1,ZO,ZN,ZH (AtRel.yes HC.out bv.out),HK.out.drewN _⟩
        case measure=>simp[intOf];omega
       ·have cD:(C.key.toList==s.key.toList)=false:=by simp[ZbV,aQ]
        have bv:=ZH aQ;go_wp2_with fail;go_quiet (fail)
        go_wp2
        go_roundw
        case rel=>exact⟨k+1,ZO,ZN,ZH (bW.out.no HC.out bv.out),HK.out.drewN _⟩
        case measure=>simp[intOf];omega
      ·obtain rfl:k=cs.length:=ZO;obtain⟨aJ,aE⟩:=ZH2 (aw.out.below af.out HK.out.below) (ai.out.below aw.out.fresh HK.out.below);rcases bW.out with ⟨rfl,dU⟩|⟨j,C,hj,rfl,hC,dP⟩
       ·have bn:s.ek=2:=Classical.byContradiction λ h=>by
         obtain⟨C,hC,eB⟩:=dA.out.1 h;obtain⟨i,hi⟩:=List.getElem?_of_mem hC;exact dU i C (ZZ.1 hi).1 hi eB
        rw[bn] at e0;clear dU bn;go_wp2
        go_roundw
        case rel=>exact⟨q+1,az,B6,x6,ZO,ZN,aJ,aE⟩
        case measure=>simp[intOf];omega
       ·obtain⟨ck,h3,h4,h5⟩:=dA.out.2 C (ZY hC) dP;have ci:=aX.out.edit.kind1;have dO:=aX.out.edit.kind5;by_cases cZ:s.ek<=2
        ·have dM:s.ek=1:=ZO;rw[dM] at e0;clear h3 h4 h5 ck ci dO cZ dM;go_wp2
         go_roundw
         case rel=>exact⟨q+1,az,B6,x6,ZO,ZN,aJ,aE⟩
         case measure=>simp[intOf];omega
        ·have bh:=(aX.out.edit.long ZO).1;obtain⟨Z,hZ⟩:∃ Z,Z=(if s.label=0 then C.s0 else C.s1):=⟨_,rfl⟩;obtain⟨F,hF⟩:∃ F,F=(if s.label=0 then C.f0 else C.f1):=⟨_,rfl⟩;rw[←hF] at h3;rw[←hZ] at h4 h5;obtain⟨p2,cl,cC⟩:∃ p2,cH[j]? = some p2/\p2.1=C:=by
          rw[←du.out,List.getElem?_map] at hC;obtain⟨p2,h2,h3⟩:=Option.map_eq_some_iff.1 hC;exact⟨p2,h2,h3⟩
         obtain⟨H3,H4,H5,ej,dz,HZ,HF⟩:=ZH7 h3 h4 h5 cl cC hZ hF;obtain⟨W9,dH⟩:∃ W9,W9=wr:=⟨_,rfl⟩;rw[←dH] at HK df e0 e1 e2 e3 aJ aE ⊢;have bL:=ZH (ZKr W9);have bN:((s.ek:Int)==2)=false:=ZP;have ch:decide ((s.ek:Int)<=2)=false:=ZP;have l0:(0:Int)<=(s.label:Int):=ZO;have l2:(s.label:Int)<2:=ZO;have ed:=ZH cZ;clear h3 h4 h5 hC dP dH cl cC hZ hF;go_wp2_with fail;go_loopw [21,22] (λ b i eO=>∃ k:Nat,k<=Z.length/\b = .bool (Zs7 s.value (Z.take k))/\i = .int .i64 k/\Hid (Kept W9.heap.size W9 eO)) (λ _ i _=>Z.length-(intOf i).toNat)
         case atStart=>exact⟨0,ZO,by simp[Zs7],rfl,bL⟩
         case round =>
          clear bL e0 e1 e2 e3 df;obtain⟨k,hkl,rfl,rfl,ae⟩:=hrel;obtain⟨g1,et,y5,j5,bq,hg1',f3,f5,r5⟩:=ZtL ((aZ.out.below HK.out.below).below ae.out.below) ej.out bh;obtain rfl:a2=some ⟨g1,0,none⟩:=by injection bq
          rw[dz.out,←HF.out] at f3;rw[dz.out,←HZ.out] at f5 r5;have hzl:=Ztd r5;have bM:=(HX.out.ob HK.out.below).ob ae.out.below;have df:=bM.lt;have e0:=bM.cell 0;have e1:=bM.cell 1;have e2:=bM.cell 2;have e3:=bM.cell 3;simp only[Zs6,ZD,ZE,ZG] at e0 e1 e2 e3;have R5:=ZH r5;clear bq bM r5;by_cases eC:k<Z.length
          ·obtain⟨z,hz⟩:∃ z,Z[k]? = some z:=⟨_,ZX eC⟩;obtain⟨h1,rfl,dN,z1⟩:=Ztk R5.out hz;have bU:=Ztu (v:=s.value) hz;obtain⟨E,hE⟩:∃ E,E=Zs7 s.value (Z.take k):=⟨_,rfl⟩;rw[←hE] at bU ⊢;have cP:=ZH bU;clear bU hE hz
           cases E with
           | true =>
            go_wp2_with fail;go_quiet (fail)
            go_wp2_with fail;go_quiet (fail)
            go_wp2
            go_roundw
            case rel=>exact⟨k+1,ZO,by rw[cP.out];simp,ZN,(by first | exact(ae.out.drewN _).drewN _ | exact ae.out.drewN _)⟩
            case measure=>simp[intOf];omega
           | false =>
            by_cases cq:z=s.value
            ·rw[cq] at z1;have ep:=ZH cq;clear cq;go_wp2_with fail;go_quiet (fail)
             go_wp2_with fail;go_quiet (fail)
             go_wp2
             go_roundw
             case rel=>exact⟨k+1,ZO,by rw[cP.out,ep.out];simp,ZN,(by first | exact(ae.out.drewN _).drewN _ | exact ae.out.drewN _)⟩
             case measure=>simp[intOf];omega
            ·have cD:(z.toList==s.value.toList)=false:=by simp[ZbV,cq]
             have em:Hid (z.toList≠s.value.toList):=ZH (by simpa using cD);have el:=ZH cD;go_wp2_with fail;go_quiet (fail)
             go_wp2_with fail;go_quiet (fail)
             go_wp2
             go_roundw
             case rel=>exact⟨k+1,ZO,by rw[cP.out];simp[cq],ZN,(by first | exact(ae.out.drewN _).drewN _ | exact ae.out.drewN _)⟩
             case measure=>simp[intOf];omega
          ·obtain rfl:k=Z.length:=ZO;rw[List.take_length];obtain⟨E,hE⟩:∃ E,E=Zs7 s.value Z:=⟨_,rfl⟩;rw[←hE];obtain⟨aB,aK⟩:=ZH2 (aJ.out.below af.out ae.out.below) (aE.out.below aJ.out.fresh ae.out.below);have eI:s.ek=3∨s.ek=4∨s.ek=5:=by have:=ed.out;omega
           clear bN ch;rcases eI with he | he | he
           focus
            rw[H3.out he] at f3
           rotate_left
           focus
            obtain rfl:E=true:=by rw[hE];exact ZtK (H4.out he)
           rotate_left
           focus
            obtain rfl:E=false:=by rw[hE];exact ZtP (H5.out he)
           rotate_left
           all_goals
            rw[he] at e0;clear he hE ci dO ck cZ;go_wp2_with fail;go_quiet (fail)
            go_wp2_with fail;go_quiet (fail)
            go_wp2
            go_roundw
            case rel=>exact⟨q+1,az,B6,x6,ZO,ZN,(by first | exact aB.out.below af.out ((ZKr _).drewN _).below | exact aB.out.below af.out (((ZKr _).drewN _).drewN _).below),(by first | exact aK.out.below aB.out.fresh ((ZKr _).drewN _).below | exact aK.out.below aB.out.fresh (((ZKr _).drewN _).drewN _).below)⟩
            case measure=>simp[intOf];omega
    ·subst eu;have aI:=cu.out;rw[if_neg (by rw[dL];decide)] at aI;obtain rfl:cH=[]:=List.map_eq_nil_iff.1 aI;by_cases dW:dr=[];focus
      subst dW;have aj:=ZH (Ztt bb.out bu.out rfl)
     rotate_left
     focus
      obtain⟨a1,k1,rfl⟩:=Zs bb.out.row;obtain⟨a2,k2,rfl⟩:=Zs bu.out.row;have aj:=ZH (ZtQ (w:=w7) (a:=a1) (b:=a2) (k:=k1) (j:=k2) (show dr.length≠([]:List (Con × Value × Value)).length from λ e=>dW (List.length_eq_zero_iff.1 e)))
     rotate_left
     all_goals
      clear aI dL;go_wp2_with fail;refine aj.out.mono ?_;rintro _ w8 ⟨rfl,bx⟩;obtain⟨aw,ai⟩:=ZH2 (au.out.below af.out bx) (aD.out.below au.out.fresh bx);clear bx aj d2 d3 d4 d5 ar;go_wp2
      go_roundw
      case rel=>exact⟨q+1,az,B6,x6,ZO,ZN,aw,ai⟩
      case measure=>simp[intOf];omega
    ·have ag:((bf:Int) != 0)=true:=ZP;have cW:¬ (bf:Int)=0:=ZO;have aj:=ZH (Ztt bb.out bu.out (by rw[dx.out,cu.out,bp]));clear bp;go_wp2_with fail;refine aj.out.mono ?_;rintro _ w8 ⟨rfl,bx⟩;obtain⟨aw,ai⟩:=ZH2 (au.out.below af.out bx) (aD.out.below au.out.fresh bx);clear bx aj d2 d3 d4 d5 ar;go_wp2
     go_roundw
     case rel=>exact⟨q+1,az,B6,x6,ZO,ZN,aw,ai⟩
     case measure=>simp[intOf];omega
   ·have co:((s.kind:Int)==0)=false:=ZP;have bK:((s.kind:Int) != 0)=true:=ZP;have cp:¬ (s.kind:Int)=0:=ZO;clear ah;go_wp2_with fail;refine(aA.out.bH ZO af.out ZO aX.out).mono ?_;intro e6 w6 hp;obtain⟨tb,az,B6,cE,rfl,ax,bV,_,_⟩:=aA.out.step ZO af.out ZO aX.out hp;obtain⟨am,aC⟩:=ZH2 ax (ap.out.upd bV nw0 nw0);clear hp cE ax bV d0 d1 d2 d3 d4 d5 d6 d7 d8 d9 ar aA ap co bK cp;go_wp2
    go_roundw
    case rel=>exact⟨q+1,az,B6,_,ZO,ZN,am,aC⟩
    case measure=>simp[intOf];omega
  ·obtain rfl:q=l0.length:=ZO;go_wp2
   go_ret;exact⟨rfl,aA.out.all⟩
end Go.Proofs.YtjkfognelhiepaaGreat
namespace Go.Proofs.YtjkfognelhiepaaGreat.topEdits
open Go.RowKit _root_.Go.Proofs.Tryz
set_option maxRecDepth 100000
set_option maxHeartbeats 8000000
open Go.ChangeShapes Go.WideShapes Go.ChangeAt Go.RowKit
open Go.ChangeMaps (open_string shut_string)
theorem own_:ownKnob prog.godebug=none:=ZK
theorem laid_:laidOutB prog=true:=ZK
theorem lifted(os:Os)(started:os.Started)(H:Type)(enc:TypeId × Value->H):
  ReturnsInHanded {} checked os 5 .any (Rows.topEditsSpec.pre6 enc prog f5 Rows.topEditsRow.domain false) (Rows.topEditsSpec.post enc prog f5 false true false false):=by
 refine returnsInHanded_of_change_sized (C:=checked) own_ started ZK func5
  (ChangeSpec.witness6 (enc:=enc) (C:=checked) false ⟨#[],#[.agg #[.int .i64 0,.int .i64 0,.int .i64 0,.int .i64 0,.int .i64 0,.int .i64 0],.slice none 0 0],[]⟩ 8 ZK ZK ZK ZK) ?_
 intro W base args ds gs before bs hW hcnd eJ _;have bI:∀ (j:Nat) t v,f5.params[j]? = some t->args[j]? = some v->Value.okWide prog W .any base t v:=bs;have ew:=hW;obtain⟨p,q,dB,hV,rfl,hfz,hnd⟩:=hW;have hA:DataW.TrodAll enc prog W 0 (λ _=>true) true f5.params.toList args.toList ds p:=dB;rw[params5] at hA bI;obtain⟨v0,vs0,d0,ds0,p0,q0,hargs,rfl,rfl,h0,r0⟩:=trodAll_cons hA;obtain⟨v1,vs1,d1,ds1,p1,q1,rfl,rfl,rfl,h1,r1⟩:=trodAll_cons r0;obtain⟨rfl,rfl,rfl⟩:=trodAll_nil r1;obtain rfl:args=#[v0,v1]:=by cases args;simp_all
 obtain⟨rfl,rfl⟩:=trodVars_none hV;have k0:=h0;have eL:∀ x∈p0,x.block<W.heap.size:=by obtain⟨m,hm⟩:=k0;exact DataW.trod_lt m _ _ _ hm
 have k1:=h1;have eM:∀ x∈p1,x.block<W.heap.size:=by obtain⟨m,hm⟩:=k1;exact DataW.trod_lt m _ _ _ hm
 have bK:∀ m∈d1.weights prog 24,m<=reachBytes:=λ m hm=>of_decide_eq_true (List.all_eq_true.1 eJ _ (DataW.weights_mem_each (j:=1) (by rw[params5];rfl) rfl m hm))
 obtain⟨x0,x1,x2,x3,x4,x5,rfl⟩:=ZsH (bI 0 23 _ rfl rfl) h0;obtain⟨a1,n1,c1,ss,rfl,eH,di,dl,cd⟩:=ZsL (bI 1 24 _ rfl rfl) h1 bK;clear dB bs;refine(ZtD x0 x1 x2 x3 x4 x5 dl eH di cd).mono λ e W' ⟨he,cS⟩=>?_
 subst he;exact⟨_,rfl,_,_,_,[],_,[],ew,trodAll_mk1 (shut_bool underlying4 _),(trodAll_cons_mk (Below.trod laid_ ZK (of_decide_eq_true ZK) k0 cS eL) (trodAll_cons_mk (Below.trod laid_ ZK (of_decide_eq_true ZK) k1 cS eM) trodAll_mk0)),rfl,cS.frame _,λ h=>by cases h⟩
theorem ZtW:Rows.topEditsRow.holds Tryz.pinned (OpenSpec.ofChange Rows.topEditsSpec) :=
 OpenClaim.holds_of_wide 5 f5 rfl rfl rfl rfl rfl rfl rfl ⟨rfl,rfl,rfl,rfl,rfl⟩ rfl rfl rfl rfl rfl ZK func5 ZK
  (of_decide_eq_true ZK) (by unfold Func.isWrapper;first|(rw[if_pos (by decide +kernel)];kernel_rfl)|(rw[if_neg (by decide +kernel)];exact⟨rfl,rfl⟩))
  (λ os started H enc _=>lifted os started H enc)
theorem proved:Rows.TopEditsSaid:=ZtW
end Go.Proofs.YtjkfognelhiepaaGreat.topEdits
namespace Go.Proofs.YtjkfognelhiepaaGreat
open Go.RowKit _root_.Go.Proofs.Tryz
set_option maxRecDepth 100000
set_option maxHeartbeats 8000000
end Go.Proofs.YtjkfognelhiepaaGreat
