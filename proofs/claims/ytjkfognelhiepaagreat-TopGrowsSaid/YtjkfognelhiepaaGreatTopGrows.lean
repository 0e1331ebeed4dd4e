/- TopGrows: for every input the law returns true and leaves its arguments as they were. No condition. -/
import Derived.Test.YtjkfognelhiepaaGreatG01
import Derived.Test.YtjkfognelhiepaaGreatG02
import Derived.Test.YtjkfognelhiepaaGreatChecked
namespace Go.Proofs.YtjkfognelhiepaaGreat
open Go.RowKit _root_.Go.Proofs.Tryz
set_option maxRecDepth 100000
set_option maxHeartbeats 8000000
theorem Ztw(i:Nat)(l m:List Ev):cnt i (l++m)=cnt i l+cnt i m:=by simp[cnt,byR]
theorem Zto{i:Nat}:∀ {l:List Ev},(∀ e∈l,e.r≠i)->cnt i l=0
 | [],_=>rfl
 | e::l,h=>by
  rw[Zp8,Zto λ e he=>h e (List.mem_cons_of_mem _ he),if_neg (h e List.mem_cons_self)]
theorem Grew.af{c:Cfg}{B B':Bd}{m b m' b' ae r0 r:Nat}{x x':WS}{s:St}(hi:WInv c B m b x)(dF:WInv c B' m' b' x')(hg:Grew x x' s ae r0)(hr:r<c.n)(hu:(Zbz (x.nodes r).s).up=true)(aj:(Zbz (x'.nodes r).s).up=true)
  (dj:(Zbz (x'.nodes r).s).log.length≠(Zbz (x.nodes r).s).log.length) :
  r=r0/\ae=0/\((s.kind=0/\s.r=r/\(Zbz (x'.nodes r).s).clk.get r=(Zbz (x.nodes r).s).clk.get r+1/\(Zbz (x'.nodes r).s).log.length=(Zbz (x.nodes r).s).log.length+1) ∨
   ((s.kind=4∨s.kind=5∨s.kind=7)/\(Zbz (x'.nodes r).s).clk.get r=(Zbz (x.nodes r).s).clk.get r/\(Zbz (x.nodes r).s).log.length<(Zbz (x'.nodes r).s).log.length)):=by
 have b8:∀ {y:NodeSt},(Zbz y).up=true->y.up=true:=λ {y} h=>by
  cases h2:y.up with
  | false=>rw[Zi9 h2] at h;cases h
  | true=>rfl
 have h1:=b8 hu;have h2:=b8 aj;rw[ZlP h1,ZlP h2] at *;simp only at *;by_cases e:r=r0
 ·subst e;have k1:=(hi.nodes r hr).clk h1 r;have k2:=(dF.nodes r hr).clk h2 r;rcases hg.2 h1 h2 with h | ⟨hc,h⟩
  ·exact absurd (by rw[h]) dj
  ·refine⟨rfl,hc,?_⟩;rw[k1,k2];rcases h with ⟨a1,a2,ev,a3,a4⟩|⟨a1,l,a2,a3,a4⟩
   ·refine .inl ⟨a1,a2,?_,by rw[a4];simp⟩;rw[a4,Zie,if_pos a3]
   ·refine .inr ⟨a1,?_,?_⟩
    ·rw[a4,Ztw,Zto a3];rfl
    ·rw[a4,ZI];have:=List.length_pos_iff.2 a2;omega
 ·exact absurd (by rw[hg.1 r e]) dj
theorem Ztt{f:Nat->SiteN}{n r:Nat}{l:List SV}(h:l.map (·.1)=(List.range n).map f)(hr:r<n):∃ vh vl,l[r]? = some (f r,vh,vl):=by
 have h1:(l.map (·.1))[r]? = some (f r):=by rw[h];simp[hr]
 rw[List.getElem?_map] at h1;obtain⟨⟨a,vh,vl⟩,h2,h3⟩:=Option.map_eq_some_iff.1 h1;simp only at h3;subst h3;exact⟨vh,vl,h2⟩
theorem SiteRows.af{B:Nat}{w:World}{v:Value}{l:List SV}(h:SiteRows B w v l){q:Nat}{S:SiteN}{vh vl:Value}(hq:l[q]? = some (S,vh,vl)):
  ∃ g cap al kl,v = .slice (some ⟨g,0,none⟩) l.length cap/\g<w.heap.size/\w.cell? ⟨g,q*9,none⟩=some (.bool S.up)/\(∀ i,i<5->w.cell? ⟨g,q*9+1+i,none⟩=some (.int .i64 (S.clk.get i)))/\w.cell? ⟨g,q*9+6,none⟩=some (.int .i64 S.sent)/\w.cell? ⟨g,q*9+8,none⟩=some (.slice al S.log.length kl)/\S.log.length<=9223372036854775807:=by
 have hm:S.log.length<=9223372036854775807:=by
  have hr:=h.log _ (ZY hq);rcases hr.2 with ⟨_,h0⟩|⟨_,c0,_,_,_,_,h1,h2,_⟩
  ·simp only at h0;omega
  ·simp only[maxLen] at h1 h2;omega
 obtain⟨g,cap,hv,hg,_,hc⟩:=h.at_ hq;obtain⟨al,kl,hl⟩:=Zs (h.log _ (ZY hq));simp only at hl;refine⟨g,cap,al,kl,hv,hg,hc 0 _ rfl,λ i hi=>?_,hc 6 _ rfl,by rw[hc 8 _ rfl,hl],hm⟩;have h5:i=0∨i=1∨i=2∨i=3∨i=4:=ZO;rcases h5 with rfl | rfl | rfl | rfl | rfl
 ·exact hc 1 _ rfl
 ·exact hc 2 _ rfl
 ·exact hc 3 _ rfl
 ·exact hc 4 _ rfl
 ·exact hc 5 _ rfl
theorem Zts{w:World}{a:Option Addr}{n cap:Nat}{ss:List RawSt}(x0 x1 x2 x3 x4 x5:Int)(hr:Reads w w.heap.size 10 a n (ss.flatMap Zdi))(hn:n=ss.length)(ay:∀ s∈ss,RawOk s)(bD:n<9223372036854775807):
  Calls prog 7 #[.agg #[.int .i64 x0,.int .i64 x1,.int .i64 x2,.int .i64 x3,.int .i64 x4,.int .i64 x5],.slice a n cap] w λ e w'=>e = .returned (.bool true)/\Below w.heap.size w w':=by
 obtain⟨cT,cQ,HR,HN,cj⟩:=ZH5 ((ZKr w).alloc (.cells #[.int .i64 x0,.int .i64 x1,.int .i64 x2,.int .i64 x3,.int .i64 x4,.int .i64 x5] 23)) (ZBn w 23 #[.int .i64 x0,.int .i64 x1,.int .i64 x2,.int .i64 x3,.int .i64 x4,.int .i64 x5]) hr hn ay;clear hr hn ay;go_enter func7,ntmps7;go_wp2_with fail;refine(ZsN _).mono ?_;rintro _ w1 ⟨rfl,ab⟩;have cU:=ZH (cT.out.step ab);have cr:=cQ.out.ob ab;obtain⟨c0,c1,c2,c3,c4,c5⟩:=cr.aS;have dJ:=cr.lt;clear ab cr cT cQ;go_wp2_with fail;refine(ZsY x0 x1 x2 x3 x4 x5 w1).mono ?_;rintro _ w2 ⟨rfl,dc⟩;have ay:=ZsU x0 x1 x2 x3 x4 x5;obtain⟨c,hc⟩:∃ c,c=Znt x0 x1 x2 x3 x4 x5:=⟨_,rfl⟩;rw[←hc] at ay ⊢;obtain⟨am,aC⟩:=ZH2 ay (cU.out.step dc);have b3:Blk ((w2.alloc (.cells Zs0 23)).setRow w2.heap.size (Zal c)) w2.heap.size 23 (Zal c):=(ZBn w2 23 Zs0).row _;have dg:=((ZKr w2).alloc (.cells Zs0 23)).row (ZL _) (Zal c);clear dc hc ay cU c0 c1 c2 c3 c4 c5 dJ;obtain⟨c0,c1,c2,c3,c4,c5⟩:=b3.aS;have dM:=b3.lt;obtain⟨cd,aQ⟩:=ZH2 b3 (aC.out.trans dg aC.out.le);clear b3 dg aC
 go_wp2_with (first
  |(refine Zy rfl 23 rfl Zs0 ZK ?_)
  |(refine wpList_store_row rfl 23 (.tmp 6) (.tmp 22) rfl w2.heap.size (Zal c) rfl rfl 23 Zs0 (ZBn w2 23 _) (ZsP c) rfl (ZsS c) ?_))
 refine(ZpY (own:=own0) (t:=1) ZO (λ _ _=>rfl) am.out).mono ?_;rintro _ w3 ⟨p,bW,rfl,dp,bS⟩;have aE:Blk w3 w2.heap.size 23 (Zal c):=cd.out.upd bS (show ¬ Zp 1 (own0 w2.heap.size) from nw0);have bj:bW w2.heap.size=0:=bS.old _ cd.out.lt;obtain⟨b6,dd⟩:∃ b6,b6=w2.heap.size:=⟨_,rfl⟩;rw[←dd] at aE bj ⊢;obtain⟨aK,cR⟩:=ZH2 (In.new ZO aQ.out dp bS) (bS.fresh);have dK:=aE.lt;obtain⟨bx,bB⟩:=ZH2 aE bj;clear dp bS dd bj cd aQ c0 c1 c2 c3 c4 c5 dM;obtain⟨c0,c1,c2,c3,c4,c5⟩:=aE.aS;clear aE;go_wp2_with fail;have bO:=(HR.out.below aK.out.all).more (B':=w3.heap.size) aK.out.all.size;refine(Ztz bO HN.out cj.out am.out.n1 am.out.n5 bD).mono ?_;rintro _ w4 ⟨v,rfl,bm,cx⟩;have bn:=Zty am.out cj.out;have cJ:=Ztx c.n ss;obtain⟨l0,bu⟩:∃ l0,l0=Zs5 c.n ss:=⟨_,rfl⟩;rw[←bu] at bm bn cJ;have bi:=Loc.make bx.out bB.out cR.out bm cx;have aA:=ZH (aK.out.below am.out cx);obtain⟨av,cv,rfl⟩:=bi.slice;obtain⟨an,cn⟩:=ZH2 bi bn;clear bm cx bu bi bn bO aK bx bB cR HR HN cj c0 c1 c2 c3 c4 c5 dK;go_wp2_with fail;go_loopw [10] (λ i wr=>∃ (q:Nat) (own:Own) (B:Bd) (x:WS),q<=l0.length/\i = .int .i64 q/\Hid (In own 1 w wr p c q B x)/\Hid (Loc own wr b6 c 0 (.slice av l0.length cv) l0)) (λ i _=>l0.length-(intOf i).toNat)
 case atStart=>exact⟨0,bW,_,_,ZO,rfl,aA,an⟩
 case round =>
  clear aA an;obtain⟨q,own,B,x,hq,rfl,aA,an⟩:=hrel;by_cases bN:q<l0.length
  ·obtain⟨s,bw⟩:∃ s,l0[q]? = some s:=⟨_,ZX bN⟩;have aU:=ZH (cn.out s (ZY bw));have bF:=an.out.blk.cell 0;simp only[ZD,ZE] at bF;have aq:=an.out.blk.lt;have cW:=ZH bw;clear bw;go_wp2_with fail;refine(Zti aA.out.at_ aA.out.fresh aA.out.inv am.out ZO).mono ?_;rintro _ w5 ⟨vs,ls,rfl,bo,dl,cy⟩;have aB:=ZH (aA.out.below am.out cy);have aH:=an.out.below aA.out.fresh cy;obtain⟨bX,dy⟩:=ZH2 bo dl;have cS:Hid (∀ g,wr.heap.size<=g->own g=0):=ZH aA.out.fresh;obtain⟨g,cq,hv,bJ,hc⟩:=aH.step cW.out;obtain rfl:av=some ⟨g,0,none⟩:=by injection hv
   have d0:=hc 0 _ rfl;have d1:=hc 1 _ rfl;have d2:=hc 2 _ rfl;have d3:=hc 3 _ rfl;have d4:=hc 4 _ rfl;have d5:=hc 5 _ rfl;have d6:=hc 6 _ rfl;have d7:=hc 7 _ rfl;have d8:=hc 8 _ rfl;have d9:=hc 9 _ rfl;simp only[Nat.add_zero] at d0;have aR:=ZH aH;clear cy bo dl hv hc aH bF aq;go_wp2_with fail;refine(aB.out.bH ZO am.out ZO aU.out).mono ?_;intro e6 w6 hp;obtain⟨tb,cP,B6,dT,rfl,aM,cL,_,_⟩:=aB.out.step ZO am.out ZO aU.out hp;have dk:StOk c (Zu s tb):=⟨aU.out.kind,aU.out.r,aU.out.edit,aU.out.mask⟩;obtain⟨r0,b4⟩:=aB.out.inv.a9 am.out ZO dk;have bC:=ZH (bX.out.upd cS.out cL nw0);have ar:=aR.out.upd cL nw0 nw0;obtain⟨x6,dq⟩:∃ x6,x6=(Zab c x (Zu s tb)).1:=⟨_,rfl⟩;obtain⟨ae,aW⟩:∃ k,k=(Zab c x (Zu s tb)).2:=⟨_,rfl⟩;rw[←dq] at aM b4;rw[←aW] at b4 ⊢;obtain⟨ck,au⟩:=ZH2 (λ r (hr:r<c.n)=>b4.af (r:=r) aB.out.inv aM.inv hr) aM;have bF:=ar.blk.cell 0;simp only[ZD,ZE] at bF;have aq:=ar.blk.lt;have aT:=ZH ar;clear hp dT aM cL dk b4 ar dq aW d0 d1 d2 d3 d4 d5 d6 d7 d8 d9 bJ aA an aB aR bX cS;go_wp2_with fail;refine(Zti au.out.at_ au.out.fresh au.out.inv am.out ZO).mono ?_;rintro _ w7 ⟨vs7,dV,rfl,bQ,bP,bZ⟩;obtain⟨aL,ap,bX,co,cm⟩:=ZH5 (au.out.below am.out bZ) (aT.out.below au.out.fresh bZ) (bC.out.below bZ) bQ bP;clear bZ bQ bP bF aq au aT bC;have HK:=ZH (ZKr w7);go_wp2_with fail;go_loopw [14,15] (λ j i dY=>∃ m r:Nat,r<=c.n/\j = .int .i64 m/\i = .int .i64 r/\Hid (Kept w7.heap.size w7 dY)/\Hid (m<=if r0<r then 1 else 0)) (λ _ i _=>c.n-(intOf i).toNat)
   case atStart=>exact⟨0,0,ZO,rfl,rfl,HK,ZH (Nat.zero_le _)⟩
   case round =>
    clear HK;obtain⟨m,r,hr,rfl,rfl,HK,HM⟩:=hrel;have hn5:=am.out.n5;have bg:=HK.out.below;have cA:=(ap.out.blk.ob bg).cell 0;simp only[ZD,ZE] at cA;have hbl9:=(ap.out.blk.ob bg).lt;by_cases b7:r<c.n
    ·obtain⟨vh1,vl1,cE⟩:=Ztt dy.out b7;obtain⟨vh2,vl2,cF⟩:=Ztt cm.out b7;obtain⟨g1,cap1,al1,kl1,rfl,hg1,a0,ac,_,al,hmA⟩:=(bX.out.below bg).af cE;obtain⟨g2,cq,al2,kl2,rfl,hg2,b0,bc,_,bl,hmZ⟩:=(co.out.below bg).af cF;have b5:r<ls.length:=(ZZ.1 cE).1;have hr2:r<dV.length:=(ZZ.1 cF).1;have dx:=ZH (ck.out r b7);have dL:=(aL.out.inv.nodes r b7);generalize Zbz (x.nodes r).s=A at *;generalize Zbz (x6.nodes r).s=Z at *;clear cE cF dL;have k0:(0:Int)<=(r:Int):=ZO;have k5:(r:Int)<5:=ZO
     cases cu:A.up with
     | false =>
      rw[cu] at a0;go_wp2_with fail;go_quiet (fail)
      go_wp2
      go_roundw
      case rel=>exact⟨m,r+1,ZO,rfl,ZN,HK.out.drewN _,ZH (ZT HM.out (by split <;> split <;> omega))⟩
      case measure=>simp[intOf];omega
     | true =>
      rw[cu] at a0
      cases cO:Z.up with
      | false =>
       rw[cO] at b0;go_wp2_with fail;go_quiet (fail)
       go_wp2
       go_roundw
       case rel=>exact⟨m,r+1,ZO,rfl,ZN,HK.out.drewN _,ZH (ZT HM.out (by split <;> split <;> omega))⟩
       case measure=>simp[intOf];omega
      | true =>
       rw[cO] at b0;by_cases aY:Z.log.length=A.log.length
       ·rw[aY] at bl;go_wp2_with fail;go_quiet (fail)
        go_wp2
        go_roundw
        case rel=>exact⟨m,r+1,ZO,rfl,ZN,HK.out.drewN _,ZH (ZT HM.out (by split <;> split <;> omega))⟩
        case measure=>simp[intOf];omega
       ·obtain⟨dS,dE,aV⟩:=dx.out cu cO aY;subst dS;subst dE;have dO:m=0:=by
         have:=HM.out;rw[if_neg (Nat.lt_irrefl _)] at this;omega
        subst dO;have df:((Z.log.length:Int)==(A.log.length:Int))=false:=ZP;have ac1:=ac r ZO;have cX:=bc r ZO;have e9:=ap.out.below aL.out.fresh bg;obtain⟨g',cap3,dn,hg5,cz⟩:=e9.step cW.out;obtain rfl:g'=g:=by
         injection dn with h1
         injection h1 with h1
         injection h1 with h1
         exact h1.symm
        have e0:=cz 0 _ rfl;have e1:=cz 1 _ rfl;simp only[Nat.add_zero] at e0;clear e9 dn cz ac bc;have az:=ZH aV;clear aV;go_wp2_with fail;go_quiet (fail)
        rcases az.out with ⟨hk,bo,aF,aO⟩|⟨hk,aF,aO⟩
        ·replace hk:s.kind=0:=hk
         replace bo:s.r=r:=bo
         rw[hk] at e0;rw[bo] at e1;rw[aF] at cX;rw[aO] at bl;clear az hk bo aF aO df aY;go_wp2_with fail;go_quiet (fail)
         go_wp2_with fail;go_quiet (fail)
         go_wp2
         go_roundw
         case rel=>first | exact⟨1,r+1,ZO,rfl,ZN,(by first | exact((HK.out.drewN _).drewN _).drewN _ | exact(HK.out.drewN _).drewN _ | exact HK.out.drewN _),ZH (by rw[if_pos (Nat.lt_succ_self _)];omega)⟩|((repeat apply Exists.intro);exact⟨⟨1,r+1,ZO,rfl,ZN,(by first | exact((HK.out.drewN _).drewN _).drewN _ | exact(HK.out.drewN _).drewN _ | exact HK.out.drewN _),ZH (by rw[if_pos (Nat.lt_succ_self _)];omega)⟩,rfl⟩)
         case measure=>simp[intOf];omega
        ·replace hk:s.kind=4∨s.kind=5∨s.kind=7:=hk
         rw[aF] at cX;obtain⟨d,hdp,hZ⟩:∃ d,0<d/\Z.log.length=A.log.length+d:=⟨Z.log.length-A.log.length,ZO,ZO⟩;rw[hZ] at bl;have hd2:decide ((d:Int)>0)=true:=ZP;have hdm:d<=9223372036854775807:=ZO;have hdm2:A.log.length+d<=9223372036854775807:=ZO;have br:=ZH hk;clear hZ aO aY hk az aF df;go_wp2_with fail;go_quiet (fail)
         go_wp2_with fail;go_quiet (fail)
         rcases br.out with hk | hk | hk <;> rw[hk] at e0
         all_goals
          clear hk;go_wp2
          go_roundw
          case rel=>first | exact⟨1,r+1,ZO,rfl,ZN,(by first | exact((HK.out.drewN _).drewN _).drewN _ | exact(HK.out.drewN _).drewN _ | exact HK.out.drewN _),ZH (by rw[if_pos (Nat.lt_succ_self _)];omega)⟩|((repeat apply Exists.intro);exact⟨⟨1,r+1,ZO,rfl,ZN,(by first | exact((HK.out.drewN _).drewN _).drewN _ | exact(HK.out.drewN _).drewN _ | exact HK.out.drewN _),ZH (by rw[if_pos (Nat.lt_succ_self _)];omega)⟩,rfl⟩)
          case measure=>simp[intOf];omega
    ·obtain rfl:r=c.n:=ZO;have hm1:m<=1:=ZT HM.out (by split <;> omega);obtain⟨ce,bz⟩:=ZH2 (aL.out.below am.out bg) (ap.out.below aL.out.fresh bg);go_wp2
     go_roundw
     case rel=>exact⟨q+1,cP,B6,x6,ZO,ZN,ce,bz⟩
     case measure=>simp[intOf];omega
  ·obtain rfl:q=l0.length:=ZO;go_wp2
   go_ret;exact⟨rfl,aA.out.all⟩
end Go.Proofs.YtjkfognelhiepaaGreat
namespace Go.Proofs.YtjkfognelhiepaaGreat.topGrows
open Go.RowKit _root_.Go.Proofs.Tryz
set_option maxRecDepth 100000
set_option maxHeartbeats 8000000
open Go.ChangeShapes Go.WideShapes Go.ChangeAt Go.RowKit
open Go.ChangeMaps (open_string shut_string)
theorem own_:ownKnob prog.godebug=none:=ZK
theorem laid_:laidOutB prog=true:=ZK
theorem lifted(os:Os)(started:os.Started)(H:Type)(enc:TypeId × Value->H):
  ReturnsInHanded {} checked os 7 .any (Rows.topGrowsSpec.pre6 enc prog f7 Rows.topGrowsRow.domain false) (Rows.topGrowsSpec.post enc prog f7 false true false false):=by
 refine returnsInHanded_of_change_sized (C:=checked) own_ started ZK func7
  (ChangeSpec.witness6 (enc:=enc) (C:=checked) false ⟨#[],#[.agg #[.int .i64 0,.int .i64 0,.int .i64 0,.int .i64 0,.int .i64 0,.int .i64 0],.slice none 0 0],[]⟩ 8 ZK ZK ZK ZK) ?_
 intro W base args ds gs before aZ hW hcnd bR _;have bp:∀ (j:Nat) t v,f7.params[j]? = some t->args[j]? = some v->Value.okWide prog W .any base t v:=aZ;have dD:=hW;obtain⟨p,q,cY,hV,rfl,hfz,hnd⟩:=hW;have hA:DataW.TrodAll enc prog W 0 (λ _=>true) true f7.params.toList args.toList ds p:=cY;rw[params7] at hA bp;obtain⟨v0,vs0,d0,ds0,p0,q0,hargs,rfl,rfl,h0,r0⟩:=trodAll_cons hA;obtain⟨v1,vs1,d1,ds1,p1,q1,rfl,rfl,rfl,h1,r1⟩:=trodAll_cons r0;obtain⟨rfl,rfl,rfl⟩:=trodAll_nil r1;obtain rfl:args=#[v0,v1]:=by cases args;simp_all
 obtain⟨rfl,rfl⟩:=trodVars_none hV;have k0:=h0;have dW:∀ x∈p0,x.block<W.heap.size:=by obtain⟨m,hm⟩:=k0;exact DataW.trod_lt m _ _ _ hm
 have k1:=h1;have dX:∀ x∈p1,x.block<W.heap.size:=by obtain⟨m,hm⟩:=k1;exact DataW.trod_lt m _ _ _ hm
 have bV:∀ m∈d1.weights prog 24,m<=reachBytes:=λ m hm=>of_decide_eq_true (List.all_eq_true.1 bR _ (DataW.weights_mem_each (j:=1) (by rw[params7];rfl) rfl m hm))
 obtain⟨x0,x1,x2,x3,x4,x5,rfl⟩:=ZsH (bp 0 23 _ rfl rfl) h0;obtain⟨a1,n1,c1,ss,rfl,dP,cD,cH,bE⟩:=ZsL (bp 1 24 _ rfl rfl) h1 bV;clear cY aZ;refine(Zts x0 x1 x2 x3 x4 x5 cH dP cD bE).mono λ e W' ⟨he,cp⟩=>?_
 subst he;exact⟨_,rfl,_,_,_,[],_,[],dD,trodAll_mk1 (shut_bool underlying4 _),(trodAll_cons_mk (Below.trod laid_ ZK (of_decide_eq_true ZK) k0 cp dW) (trodAll_cons_mk (Below.trod laid_ ZK (of_decide_eq_true ZK) k1 cp dX) trodAll_mk0)),rfl,cp.frame _,λ h=>by cases h⟩
theorem ZtF:Rows.topGrowsRow.holds Tryz.pinned (OpenSpec.ofChange Rows.topGrowsSpec) :=
 OpenClaim.holds_of_wide 7 f7 rfl rfl rfl rfl rfl rfl rfl ⟨rfl,rfl,rfl,rfl,rfl⟩ rfl rfl rfl rfl rfl ZK func7 ZK
  (of_decide_eq_true ZK) (by unfold Func.isWrapper;first|(rw[if_pos (by decide +kernel)];kernel_rfl)|(rw[if_neg (by decide +kernel)];exact⟨rfl,rfl⟩))
  (λ os started H enc _=>lifted os started H enc)
theorem proved:Rows.TopGrowsSaid:=ZtF
end Go.Proofs.YtjkfognelhiepaaGreat.topGrows
namespace Go.Proofs.YtjkfognelhiepaaGreat
open Go.RowKit _root_.Go.Proofs.Tryz
set_option maxRecDepth 100000
set_option maxHeartbeats 8000000
end Go.Proofs.YtjkfognelhiepaaGreat
