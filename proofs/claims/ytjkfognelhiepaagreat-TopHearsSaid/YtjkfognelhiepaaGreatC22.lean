import Derived.Test.YtjkfognelhiepaaGreatC21
import Derived.ProofKit
import Derived.OpenShut
import Derived.ShutString
import Derived.ChangeOld
import Derived.Deep.Slices
import Derived.Deep.Fields
import Derived.ChangeSame
import Derived.SizedLaws
import Derived.Lib.SmallJoins
namespace Go.Proofs.YtjkfognelhiepaaGreat
open Go.RowKit _root_.Go.Proofs.Tryz
set_option maxRecDepth 100000
set_option maxHeartbeats 8000000
section
section
variable {c:Cfg}{B B':Bd}{x:PH}
theorem Zln{sh:List Sh}{r:Nat}(z:Sh):lensOf (sh.set r z)=(lensOf sh).set r (shLen z):=by unfold lensOf;rw[List.map_set]
theorem ZnE{sh:List Sh}{r i:Nat}{z:Sh}(hr:r<sh.length):hubLen (sh.set r z) i=if i=r then shLen z else hubLen sh i:=by
 unfold hubLen;rw[Zln,List.getD_eq_getElem?_getD,List.getD_eq_getElem?_getD];split
 ·rename_i h;rw[h,List.getElem?_set_self (by unfold lensOf;rw[List.length_map];exact hr)];rfl
 ·rename_i h;rw[List.getElem?_set_ne (λ h'=>h h'.symm)]
theorem ZkG{most base:Nat}{kept l:List Ev}(hl:(Z1 most base kept l).2.length=kept.length):(Z1 most base kept l).2=kept:=by
 unfold Z1 at hl ⊢;simp only[] at hl ⊢;split at hl
 ·rename_i h1;rw[if_pos h1]
 ·rename_i h1;rw[if_neg h1];split at hl
  ·rename_i h2;rw[if_pos h2]
  ·rename_i h2;rw[ZI] at hl;omega
def Bd.aA(B:Bd)(r n:Nat):Bd:=⟨B.made,λ i=>if i=r then n else B.hub i⟩
theorem HubInv.push(h:HubInv c B x)(hu:x.s.up=true)(hc:c.Ok)(hb:tot B.made<=100){f:Frm}(hf:HubFrm c B f)(hk:f.kind=1):∃ B',HubTook c B (Zr c x f) B':=by
 obtain⟨g1,g2,g3⟩:=h.up hu;have l8:=h.bj hu hf hk;have eQ:=h.inv;rw[g3] at eQ;obtain⟨⟨up,d,sh,told⟩,rs⟩:=x;simp only at hu g1 g2 g3 l8 eQ;subst hu;have ce:=l8.r;simp only at ce;obtain⟨x0,jX⟩:∃ x0,sh[f.r]? = some x0:=⟨_,ZX ce⟩;obtain⟨n0,fJ,qB⟩:=(hf.evs hk).2;have O2:B.hub f.r=shLen x0:=by rw[h.hub,g3,Zg1 jX]
 have oN:=eQ.put jX (l:=f.events) (λ e he=>⟨(hf.evs hk).1 e he,(hf.ok.push hk).2 e he⟩) fJ ZO;have h5:sh.length<=5:=by have h1:sh.length=c.n:=eQ.len;have:=hc.n5;omega
 have nS:(lenOf sh).get f.r=shLen x0:=by rw[Zo9 h5,Zg1 jX]
 have im:Z7 c.w f.r f.events sh told=if (Z1 c.w x0.base x0.kept f.events).1=0 then
   ((cutSh told f.r ⟨x0.base,(Z1 c.w x0.base x0.kept f.events).2⟩).base+(cutSh told f.r ⟨x0.base,(Z1 c.w x0.base x0.kept f.events).2⟩).kept.length,0,sh.set f.r (cutSh told f.r ⟨x0.base,(Z1 c.w x0.base x0.kept f.events).2⟩))
  else(0,(Z1 c.w x0.base x0.kept f.events).1,sh):=by
  unfold Z7;rw[jX]
 by_cases hp:(Z1 c.w x0.base x0.kept f.events).1=0
 ·rw[if_pos hp] at im;obtain⟨y,hy,y1,y2,y3,y4,y5⟩:=oN hp;rw[←hy] at im;obtain⟨z,hz⟩:∃ z,z=cutSh told f.r y:=⟨_,rfl⟩;rw[←hz] at im;have Tg:shLen z=shLen y:=by rw[hz];exact(Ze8 told f.r y).1
  have e1:(Z7 c.w f.r f.events sh told).2.1=0:=by rw[im]
  have e2:(Z7 c.w f.r f.events sh told).1=shLen z:=by rw[im];rfl
  have e3:(Z7 c.w f.r f.events sh told).2.2=sh.set f.r z:=by rw[im]
  by_cases iE:shLen z=shLen x0
  ·
   have Tc:y=x0:=by
    have hl:y.kept.length=x0.kept.length:=by
     have:y.base=x0.base:=by rw[hy]
     rw[Tg] at iE;unfold shLen at iE;omega
    rw[hy] at hl;have:=ZkG hl;rw[hy,this]
   have cM:z=x0:=by rw[hz,Tc];exact eQ.cut _ _ jX
   have fp:sh.set f.r z=sh:=by rw[cM];exact Zgo jX
   have ho:Zr c ⟨⟨true,d,sh,told⟩,rs⟩ f=(⟨⟨true,d,sh,told⟩,rs⟩,some (f.r,ZaL f.r (shLen x0)),0):=by
    unfold Zr Zax Zfp;simp only[Bool.true_eq_false,if_false,hk,if_true,e1,e2,e3,nS,iE,fp,ne_eq,not_true]
   refine⟨B,Bd.le.refl B,rfl,?_,λ to g hg=>?_⟩
   ·rw[ho];exact⟨h.rows,h.ok,h.rep,h.inv,h.len,h.hub,λ _=>⟨g1,g2,g3⟩⟩
   ·rw[ho] at hg;simp only[Option.some.injEq,Prod.mk.injEq] at hg;obtain⟨rfl,rfl⟩:=hg;have wL:=(eQ.sh _ _ jX).made;have:=ZcY hb hf.ok.r;exact⟨⟨Zfr hf.ok.r ZO,hf.r,.inl rfl,by simp[ZaL,O2],by simp[ZaL],rfl⟩,by rw[ho]⟩
  ·obtain⟨B1,cW⟩:∃ B1,B1=B.aA f.r (shLen z):=⟨_,rfl⟩;have fc:B.le B1:=by
    rw[cW];refine⟨λ _=>ZL _,λ i=>?_⟩;unfold Bd.aA;simp only;split
    ·rename_i hi;rw[hi,O2];omega
    ·exact ZL _
   have lM:B1.made=B.made:=by rw[cW];rfl
   have nk:ShG c f.r B1 y:=⟨λ e he=>⟨(y1 e he).1.more fc,(y1 e he).2⟩,y2,y3,by rw[cW];unfold Bd.aA;simp only[if_true];omega,by rw[lM];exact y4⟩;have nz:(sh.set f.r z,told)=ZbO c.w (sh,told) (ZaC f):=by
    unfold ZbO ZaC;simp only[if_true];rw[e3]
   have Mb:PostInv c B1 (sh.set f.r z,told):=by
    have yF:=eQ.more fc;refine⟨by simp only[List.length_set];exact eQ.len,eQ.len2,λ i w hw=>?_,yF.told,λ i w hw=>?_⟩
    ·simp only[List.getElem?_set] at hw;split at hw
     ·rename_i hi;subst hi;injection hw with hw;rw[←hw,hz];exact nk.cut told _
     ·exact yF.sh i w hw
    ·simp only[List.getElem?_set] at hw;split at hw
     ·rename_i hi;subst hi;injection hw with hw;rw[←hw,hz];exact ZjS told _ _
     ·exact eQ.cut i w hw
   have fI:∀ i,B1.hub i=hubLen (sh.set f.r z,told).1 i:=λ i=>by
    simp only;rw[ZnE ce,cW];unfold Bd.aA;simp only;split
    ·rfl
    ·rw[h.hub,g3]
   have rP:(lensOf sh).sum+(told.map clkSum).sum+1<=(lensOf (sh.set f.r z)).sum+(told.map clkSum).sum:=by
    have lJ:(lensOf sh)[f.r]? = some (shLen x0):=by unfold lensOf;rw[List.getElem?_map,jX];rfl
    have:=ZjK (shLen z) lJ;rw[Zln];omega
   obtain⟨B2,k1,k2,k3,k4⟩:=h.wrote rfl hc hb fc lM (Zi2 hf.ok) nz l8 Mb fI rP (up:=decide ((d.write (recBytes (ZaC f))).2=0)) ZM;have ho:Zr c ⟨⟨true,d,sh,told⟩,rs⟩ f=(⟨⟨decide ((d.write (recBytes (ZaC f))).2=0),(d.write (recBytes (ZaC f))).1,sh.set f.r z,told⟩,ZaY d rs (ZaC f)⟩,if (d.write (recBytes (ZaC f))).2=0 then some (f.r,ZaL f.r (shLen z)) else none,if (d.write (recBytes (ZaC f))).2=0 then 0 else 18):=by
    unfold Zr Zax Zfp;simp only[Bool.true_eq_false,if_false,hk,if_true,e1,e2,e3,nS,iE,ne_eq,not_true];split
    ·rename_i hw;simp[hw]
    ·rename_i hw;simp[hw]
   refine⟨B2,k1,k2,by rw[ho];exact k3,λ to g hg=>?_⟩;rw[ho] at hg;simp only at hg;split at hg
   ·rename_i hw;simp only[Option.some.injEq,Prod.mk.injEq] at hg;obtain⟨rfl,rfl⟩:=hg;have e4:=k4 (by simp[hw]);have:=ZcY hb hf.ok.r;exact⟨⟨Zfr hf.ok.r ZO,hf.r,.inl rfl,by rw[e4,cW];simp[ZaL,Bd.aA],by simp[ZaL],rfl⟩,by rw[ho];simp[hw]⟩
   ·cases hg
 ·rw[if_neg hp] at im;have ho:Zr c ⟨⟨true,d,sh,told⟩,rs⟩ f=(⟨⟨true,d,sh,told⟩,rs⟩,none,(Z1 c.w x0.base x0.kept f.events).1):=by
   unfold Zr Zax Zfp;simp only[Bool.true_eq_false,if_false,hk,if_true,im,ne_eq,hp,not_false_eq_true]
  refine⟨B,Bd.le.refl B,rfl,?_,λ to g hg=>?_⟩
  ·rw[ho];exact⟨h.rows,h.ok,h.rep,h.inv,h.len,h.hub,λ _=>⟨g1,g2,g3⟩⟩
  ·rw[ho] at hg
   cases hg
theorem HubInv.bJ(h:HubInv c B x)(hu:x.s.up=true)(hc:c.Ok){f:Frm}(hf:HubFrm c B f)(hk:f.kind=3):HubTook c B (Zr c x f) B:=by
 obtain⟨g1,g2,g3⟩:=h.up hu;have eQ:=h.inv;rw[g3] at eQ;have ho:Zr c x f=(x,some (f.r,Zbe f.r (Zak x.s.sh f.r f.clock x.s.sh.length)),0):=by
  have n1:(x.s.up=false)=False:=by simp[hu]
  have n2:(f.kind=1)=False:=by simp[hk]
  have n3:(f.kind=3)=True:=by simp[hk]
  simp only[Zr,Zax,Zfp,n1,n2,n3,if_false,if_true]
 rw[ho];refine⟨Bd.le.refl B,rfl,h,λ to g hg=>?_⟩;simp only[Option.some.injEq,Prod.mk.injEq] at hg;obtain⟨rfl,rfl⟩:=hg;have hl:=eQ.len;simp only at hl;have eK:∀ e∈Zak x.s.sh f.r f.clock x.s.sh.length,EvH c f.r B e:=λ e he=>by
  obtain⟨i,s,h1,h2,h3,h4,h5⟩:=ZiL.1 he;have g:=eQ.sh i s h3;obtain⟨a1,a2⟩:=g.all e h4;exact⟨a1,by rw[a2];exact h2,by rw[a2];exact ZT (g.num h4) g.hub⟩
 have hlen:(Zak x.s.sh f.r f.clock x.s.sh.length).length<=20:=by
  have:=Ze9 (sh:=x.s.sh) (r:=f.r) (c:=f.clock) (m:=4) (λ s hs=>by
   obtain⟨i,hi,rfl⟩:=List.getElem_of_mem hs;have:=(eQ.sh i _ (ZX hi)).len;have:=hc.w4
   omega) x.s.sh.length
  have h1:x.s.sh.length=c.n:=hl;have:=hc.n5;omega
 exact⟨⟨ZjW hf.ok.r hlen (λ e he=>(eK e he).good.ok),hf.r,.inr rfl,by simp[Zbe],eK,rfl⟩,rfl⟩
theorem HubInv.bO(h:HubInv c B x)(hu:x.s.up=true)(hc:c.Ok)(hb:tot B.made<=100){f:Frm}(hf:HubFrm c B f)(hk:f.kind=5):HubTook c B (Zr c x f) B:=by
 obtain⟨g1,g2,g3⟩:=h.up hu;have eQ:=h.inv;rw[g3] at eQ;have hl:=eQ.len;have mM:=eQ.len2;have gA:=hf.r;simp only at hl mM;have n1:(x.s.up=false)=False:=by simp[hu]
 have n2:(f.kind=1)=False:=by simp[hk]
 have n3:(f.kind=3)=False:=by simp[hk]
 have pY:x.s.told[f.r]? = some (x.s.told.getD f.r ZCz):=by rw[List.getD_eq_getElem?_getD,ZX ZO];rfl
 have EV:(Z9 x.s.told f).getD f.r ZCz=(x.s.told.getD f.r ZCz).join f.clock:=by
  unfold Z9;rw[List.getD_eq_getElem?_getD,List.getElem?_set_self ZO];rfl
 by_cases hs:(x.s.told.getD f.r ZCz).join f.clock=x.s.told.getD f.r ZCz
 ·have ht:Z9 x.s.told f=x.s.told:=by
   unfold Z9;rw[hs];exact Zgo pY
  have Ld:ZaE x.s.sh (Z9 x.s.told f) x.s.sh.length=x.s.sh:=by rw[ht];exact Znd eQ.cut
  have ho:Zr c x f=(⟨⟨true,x.s.d,x.s.sh,x.s.told⟩,x.rs⟩,none,0):=by
   simp only[Zr,Zax,Zfp,n1,n2,n3,if_false,EV,hs,if_true,Ld];rw[ht]
  rw[ho];exact⟨Bd.le.refl B,rfl,⟨h.rows,h.ok,h.rep,h.inv,h.len,h.hub,λ _=>⟨g1,g2,g3⟩⟩,λ to g hg=>by cases hg⟩
 ·obtain⟨iG,ht⟩:∃ t,t=Z9 x.s.told f:=⟨_,rfl⟩;obtain⟨zd,i6⟩:∃ t,t=ZaE x.s.sh iG x.s.sh.length:=⟨_,rfl⟩;have ed:(zd,iG)=ZbO c.w (x.s.sh,x.s.told) (Zav f):=by
   unfold ZbO Zav;simp only;rw[if_neg ZO,if_pos trivial,i6,ht];rfl
  have hlen:zd.length=c.n:=by rw[i6,ZcO];exact hl
  have yo:∀ i y,zd[i]? = some y->∃ z,x.s.sh[i]? = some z/\y=cutSh iG i z:=λ i y hy=>by
   have hi:i<x.s.sh.length:=by
    have:=(ZZ.1 hy).1;omega
   have:=ZgN (told:=iG) hi (ZX hi);rw[←i6,hy] at this;injection this with this;exact⟨_,ZX hi,this⟩
  have Mb:PostInv c B (zd,iG):=by
   refine⟨hlen,by simp only;rw[ht];unfold Z9;rw[List.length_set];exact mM,λ i y hy=>?_,λ y hy i=>?_,λ i y hy=>?_⟩
   ·obtain⟨z,h1,rfl⟩:=yo i y hy;exact(eQ.sh i z h1).cut iG i
   ·simp only at hy;rw[ht] at hy;unfold Z9 at hy;rcases List.mem_or_eq_of_mem_set hy with hy | rfl
    ·exact eQ.told y hy i
    ·rw[Zee];exact Nat.max_le.2 ⟨eQ.told _ (ZY pY) i,hf.clk i⟩
   ·obtain⟨z,h1,rfl⟩:=yo i y hy;exact ZjS iG i z
  have yw:lensOf zd=lensOf x.s.sh:=by rw[i6];exact Zig ..
  have fI:∀ i,B.hub i=hubLen (zd,iG).1 i:=λ i=>by
   simp only;unfold hubLen;rw[yw];have:=h.hub i;rw[g3] at this;exact this
  have rP:(lensOf x.s.sh).sum+(x.s.told.map clkSum).sum+1<=(lensOf zd).sum+(iG.map clkSum).sum:=by
   have h1:(x.s.told.map clkSum)[f.r]? = some (clkSum (x.s.told.getD f.r ZCz)):=by rw[List.getElem?_map,pY];rfl
   have h2:=ZjK (clkSum ((x.s.told.getD f.r ZCz).join f.clock)) h1;have h3:=Zl6 hs;have h4:iG.map clkSum=(x.s.told.map clkSum).set f.r (clkSum ((x.s.told.getD f.r ZCz).join f.clock)):=by rw[ht];unfold Z9;rw[List.map_set]
   rw[yw,h4];omega
  have l8:NextOk (x.s.sh,x.s.told) (Zav f):=⟨by simp only[Zav];omega,.inr rfl,λ h=>by simp[Zav] at h⟩;obtain⟨B2,k1,k2,k3,k4⟩:=h.wrote hu hc hb (Bd.le.refl B) rfl (ZjO hf.ok) ed l8 Mb fI rP (up:=decide ((x.s.d.write (recBytes (Zav f))).2=0)) ZM;have dd:B2=B:=by
   have h1:∀ i,B2.hub i=B.hub i:=λ i=>by
    have h2:=k3.hub i;have h3:∀ IT,(IT=x.rs∨IT=x.rs++[Zav f])->hubLen (repl c IT).1 i=B.hub i:=λ IT hr=>by
     rcases hr with rfl | rfl
     ·exact(h.hub i).symm
     ·rw[ZlJ,g3,←ed];exact(fI i).symm
    rw[h2];refine h3 _ ?_;unfold ZaY;simp only;split
    ·exact .inl rfl
    ·split
     ·split
      ·exact .inr rfl
      ·exact .inl rfl
     ·exact .inr rfl
   obtain⟨m2,u2⟩:=B2;obtain⟨m1,u1⟩:=B;simp only at k2 h1;rw[k2,funext h1]
  rw[dd] at k3;have ho:Zr c x f=(⟨⟨decide ((x.s.d.write (recBytes (Zav f))).2=0),(x.s.d.write (recBytes (Zav f))).1,zd,iG⟩,ZaY x.s.d x.rs (Zav f)⟩,none,if (x.s.d.write (recBytes (Zav f))).2=0 then 0 else 18):=by
   simp only[Zr,Zax,Zfp,n1,n2,n3,if_false,EV,hs];rw[←ht,←i6];split
   ·rename_i hw;simp[hw]
   ·rename_i hw;simp[hw]
  rw[ho];exact⟨Bd.le.refl B,rfl,k3,λ to g hg=>by cases hg⟩
theorem HubInv.take(h:HubInv c B x)(hc:c.Ok)(hb:tot B.made<=100){f:Frm}(hf:HubFrm c B f):∃ B',HubTook c B (Zr c x f) B':=by
 by_cases hu:x.s.up=true
 ·rcases hf.kind with hk | hk | hk
  ·exact h.push hu hc hb hf hk
  ·exact⟨B,h.bJ hu hc hf hk⟩
  ·exact⟨B,h.bO hu hc hb hf hk⟩
 ·have ho:Zr c x f=(x,none,18):=by
   unfold Zr Zax Zfp;rw[if_pos (by simpa using hu),if_pos (by simpa using hu)]
  rw[ho];exact⟨B,Bd.le.refl B,rfl,h,λ to g hg=>by cases hg⟩
end
end
section
theorem RecLoose.bP{own:Own}{w:World}{v:Value}{rs:List Frm}{ps:List (Frm × Value)}(h:RecLoose own w v rs ps){q:Nat}{f:Frm}(hf:rs[q]? = some f):∃ b a n c av,v = .slice (some ⟨b,0,none⟩) rs.length c/\b<w.heap.size/\Loose own w a n av f.events/\n=f.events.length /\
  (∀ j,j<9->w.cell? ⟨b,q*9+j,none⟩=(Za f (.slice a n av))[j]?):=by
 have hq:=(ZZ.1 hf).1;obtain⟨a0,c0,rfl⟩:=Zs h.rows.row;obtain⟨g,hg,eB,bU⟩:=Zby h.rows.row ZO;have fQ:ps.length=rs.length:=by rw[←h.rows.is_];simp
 obtain⟨p,hp⟩:∃ p,ps[q]? = some p:=⟨_,ZX ZO⟩;have yK:p.1=f:=by
  have:=h.rows.is_;have h2:(ps.map (·.1))[q]? = some p.1:=by rw[List.getElem?_map,hp];rfl
  rw[this,hf] at h2;injection h2 with h2;exact h2.symm
 have qq:=h.rows.evs p (ZY hp);have qE:=h.o2 p (ZY hp);obtain⟨av,cv,hv,eD⟩:=EvSl.ab qq;rw[hv] at qq qE;rw[yK] at hv eD;refine⟨g,av,_,c0,cv,by rw[hg],eB,⟨eD,λ ad e=>?_⟩,rfl,λ j hj=>?_⟩
 ·subst e;exact⟨qE _ rfl,(Zb qq rfl).2⟩
 ·rw[bU _ (by rw[Zhb];omega),Zfh ps q j p hp hj,yK,hv]
theorem StartRun.append{own0 own:Own}{t:Nat}{w0 w w7:World}{p dp:Nat}{al:Option Addr}{cl:Nat}{bv iv ov v7:Value}{c:Cfg}{r:Nat}{d:Dk}{log l:List Ev}{sent:Nat}{v:Value}{rs:List Frm}{ps:List (Frm × Value)}(h:StartRun own0 own t w0 p dp (.slice al log.length cl) bv iv ov c r d log sent v rs ps w)(ht:0<t){n:Nat}(hn:n=l.length)
  (cT:w7.ownsRow 0 89 12 v7 (log.length+n) (evCells log++evCells l)) (hg:w.grownBy w7 (Value.slice al log.length cl).ownBlock) (iL:v7.ownBlock=(Value.slice al log.length cl).ownBlock∨v7.ownBlock=some w.heap.size) :
  w7.cell? ⟨p,9,none⟩=some (.slice al log.length cl)/\w7.frozen? ⟨p,9,none⟩=false/\p<w7.heap.size/\∃ dH,StartRun own0 dH t w0 p dp v7 bv iv ov c r d (log++l) sent v rs ps (w7.setCell ⟨p,9,none⟩ v7)/\Upd (λ m=>m=t∨m=t+2) own dH w (w7.setCell ⟨p,9,none⟩ v7):=by
 obtain⟨jW,gM⟩:=Upd.grow (T:=(· = t+2)) (Upd.refl (· = t+2) own w h.upd.fresh) rfl (λ g hg=>h.row.own g hg) (λ g hg=>(Zb cT hg).2) hg iL;have hb:=h.blk.upd jW (by rw[h.mine];omega);have cB:RowAt (own.put v7 (t+2)) (t+2) w7 v7 (log++l):=⟨by rw[ZI,←hn,Zbj];exact cT,λ g hg=>by unfold Own.put;rw[if_pos hg]⟩;have hs:=h.put ht jW cB rfl;refine⟨hb.cell 9,hb.frozen 9,hb.lt,_,hs,?_⟩;have hm:own.put v7 (t+2) p=t:=hs.mine;have fp:Upd (· = t) (own.put v7 (t+2)) (own.put v7 (t+2)) w7 (w7.setCell ⟨p,9,none⟩ v7):=(Upd.refl (· = t) _ w7 jW.fresh).setCell (p:=⟨p,9,none⟩) (λ _=>hm) _;exact(jW.mono (λ m hm => .inr hm)).trans (fp.mono (λ m hm => .inl hm))
section
variable {own:Own}{t p r:Nat}{w:World}{c:Cfg}{s:NodeSt}
theorem ZkE(h:NodeAt own t w p c r s)(hu:s.up=true):
  Calls prog 45 #[ptrV p] w λ e w'=>e = .returned (.int .i64 19)/\Below w.heap.size w w':=by
 obtain⟨h1,dp,bp,ip,op,lv,h3,h4,h5,h6,h7,h8⟩:=h;obtain⟨c6,c7,c8,c9,cP,cR,dX,dY⟩:=h3.ag;have ce:=h3.lt;clear h3 h4 h5 h6 h7 h8;obtain⟨up,d,log,sent,book,clk,held,wait⟩:=s;simp only at hu;subst hu;go_enter func45,ntmps45;go_wp2_with fail;go_step3
 go_wp2_with fail;rw[Exit.noGoto_ret];go_ret;exact⟨rfl,ZW _ _⟩
theorem ZiW{d:Dk}{dv PK bv iv ov:Value}{qK:Nat}{rs:List Frm}(ht:0<t)(hm:own p=t)(hb:Blk w p 133 (nodeArr c r false dv PK qK bv iv ov))(hf:Fresh own w)(hd:(∃ dp,dv=ptrV dp/\DiskAt own (t+1) w dp d)∨(dv = .pointer none/\d=Dk.new))(hr:Rows d.bytes rs)(hlen:∀ q,(nodeRecs (rs.take q)).1.length<=1000)(eO:LogOk c.q r (nodeRecs rs).2 (nodeRecs rs).1):
  Calls prog 45 #[ptrV p] w λ e w'=>e = .returned (.int .i64 0)/\∃ own',NodeAt own' t w' p c r ⟨true,⟨recsBytes rs,false,false,d.keep⟩,(nodeRecs rs).1,(nodeRecs rs).2,(nodeRecs rs).1.foldl applyN [],clkOf (nodeRecs rs).1,[],waitN r (nodeRecs rs).2 (nodeRecs rs).1⟩/\Upd (NodeT t) own own' w w':=by
 have Py:=Zjw (td:=t+1) hb hm hf (by
  rcases hd with ⟨dp,h1,h2⟩|⟨h1,h2⟩
  ·exact .inl ⟨dp,by rw[h1];rfl,h2⟩
  ·exact .inr ⟨by rw[h1];rfl,h2⟩)
 obtain⟨c6,c7,c8,c9,cP,cR,dX,dY⟩:=hb.ag;have fQ:=hb.lt;obtain⟨i0,hi,cM,cG,cK⟩:=info_parts Zbv;obtain⟨Hy,HR,HM,iy,gN⟩:=ZH5 Py hr hm hlen eO;clear Py hb hm hf hd hr hlen eO;go_enter func45,ntmps45;go_wp2_with fail;go_step3
 go_wp2_with fail;refine Hy.out.mono ?_;rintro _ w1 ⟨cF,dp,rfl,bS,nO,co⟩;have j7:Hid (cF p=t):=ZH ((co.old p fQ).trans HM.out);have EB:Blk w1 p 133 (nodeArr c r false (ptrV dp) PK qK bv iv ov):=bS;obtain⟨fq,da,cL⟩:=ZH3 (ZiE nO co.fresh) (co.mono (T':=NodeT t) (λ m hm=>by rcases hm with h | h <;> exact⟨ZO,ZO⟩)) EB;clear co nO bS EB;go_wp2_with fail;refine fq.out.mono ?_;rintro _ w2 ⟨rfl,je,cm⟩;have Az:=ZiD je (by have:=HR.out.big;simp only[Dk.start];omega);have o7:¬ cF p=t+1:=by rw[j7.out];omega
 obtain⟨cH,dc,nG,G6⟩:=ZH4 (cL.out.upd cm o7) (da.out.trans (cm.mono (T':=NodeT t) (λ _ h=>⟨ZO,ZO⟩))) je Az;clear je cm Az o7;go_wp2_with fail;refine G6.out.mono ?_;rintro _ w3 ⟨v3,rfl,ew,bZ⟩;obtain⟨uT,dI,ii,dj⟩:=ZH4 (Zhc ew HR.out) (dc.out.kept bZ) (nG.out.upd (ZUb (T:=λ _=>False) bZ dc.out.fresh) (λ h=>h)) (cH.out.ob bZ);obtain⟨a3,c3,rfl⟩:=Zs ew;clear ew bZ;go_wp2_with fail;refine uT.out.mono ?_;rintro _ w4 ⟨v4,ps,rfl,lR,cz⟩;have dS:=dI.out.kept cz;have l7:=ii.out.upd (ZUb (T:=λ _=>False) cz dI.out.fresh) (λ h=>h);have fc:(recsBytes rs).length<=d.start.bytes.length:=by
  obtain⟨f0,m,_,_,hl⟩:=HR.out.is_;simp only[Dk.start];rw[hl,ZI];omega
 have oQ:=ZjU l7 dS.fresh fc (by have:=HR.out.big;simp only[Dk.start];omega);have fK:=ZH (dj.out.ob cz);obtain⟨a4,c4,rfl⟩:=Zs lR.row;obtain⟨fF,nI,uu,nJ⟩:=ZH4 dS oQ lR dI.out.size;clear lR cz dS l7 oQ fc;go_wp2_with fail;refine nI.out.mono ?_;rintro _ w5 ⟨rfl,jy,gS⟩;have Iz:d.start.trim (recsBytes rs).length=⟨recsBytes rs,false,false,d.keep⟩:=by
  obtain⟨f0,m,_,_,hl⟩:=HR.out.is_;simp only[Dk.start,Dk.trim,hl,List.take_left]
 rw[Iz] at jy
 have rN:RecRows w.heap.size w5 (.slice a4 rs.length c4) rs ps:=uu.out.keep (λ g h1 h2=>gS.same g h2 (λ h=>by
  rw[dI.out.fresh g h1] at h
  omega)) nJ.out
 have dw:=fK.out.upd gS (by rw[j7.out];omega);have Bw:=fF.out.trans (gS.mono (T':=NodeT t) (λ _ h=>⟨ZO,ZO⟩));have kX:RecLoose cF w5 (.slice a4 rs.length c4) rs ps:=⟨⟨rN.is_,Zi rN.row (Nat.zero_le _),λ x hx=>Zi (rN.evs x hx) (Nat.zero_le _)⟩,λ g hg=>dI.out.fresh g (Zb uu.out.row hg).1,λ x hx g hg=>dI.out.fresh g (Zb (uu.out.evs x hx) hg).1⟩;have IL:Upd (· = t) cF cF w5 (w5.setCell ⟨p,9,none⟩ (.slice none 0 0)):=(Upd.refl (· = t) cF w5 Bw.fresh).setCell (p:=⟨p,9,none⟩) (λ _=>j7.out) _;have eu:Blk (w5.setCell ⟨p,9,none⟩ (.slice none 0 0)) p 133 (nodeArr c r false (ptrV dp) (.slice none 0 0) qK bv iv ov):=dw.ai 9 _;have yR:StartRun own cF t w p dp (.slice none 0 0) bv iv ov c r ⟨recsBytes rs,false,false,d.keep⟩ [] qK (.slice a4 rs.length c4) rs ps (w5.setCell ⟨p,9,none⟩ (.slice none 0 0)) :=
  ⟨j7.out,eu,jy.upd IL ZO,RowAt.none_ _ _ _,kX.upd IL ZO,Bw.trans (IL.mono (λ m hm=>⟨ZO,ZO⟩))⟩
 have xM:=ZH (yR.tell ht (sent':=0) (x := .int .i64 0) rfl);have e9:=dw.cell 9;have g9:=dw.frozen 9;have iJ:=eu.cell 10;have BV:=eu.frozen 10;have tJ:=dw.lt;have AZ:=eu.lt;simp only[ZD,ZE,ZG] at e9 iJ;clear jy gS Iz rN dw Bw kX IL eu yR Hy da fq cL cH dc nG G6 dI uT ii dj fK fF nI uu nJ c6 c7 c8 c9 cP cR dX dY;have Mp:=HR.out.len;go_wp2_with fail;go_step3
 generalize ((w5.setCell ⟨p,9,none⟩ (.slice none 0 0)).setCell ⟨p,10,none⟩ (.int .i64 0))=W at *;clear e9 g9 iJ BV tJ AZ;go_wp2_with fail;go_loopw [33] (λ i wr=>∃ (q:Nat) (dD:Own) (lv:Value),q<=rs.length/\i = .int .i64 q/\Hid (StartRun own dD t w p dp lv bv iv ov c r ⟨recsBytes rs,false,false,d.keep⟩ (nodeRecs (rs.take q)).1 (nodeRecs (rs.take q)).2 (.slice a4 rs.length c4) rs ps wr)) (λ i _=>rs.length-(intOf i).toNat)
 case atStart=>exact⟨0,cF,.slice none 0 0,Nat.zero_le _,rfl,xM⟩
 case round =>
  clear xM;obtain⟨q,dD,lv,hq,rfl,HH⟩:=hrel;by_cases dy:q<rs.length
  ·obtain⟨f,uE⟩:∃ f,rs[q]? = some f:=⟨_,ZX dy⟩;obtain⟨b,ea,en,cv,rl,By,cQ,eD,kG,bU⟩:=HH.out.recs.bP uE;injection By with By _ IQ;subst By IQ;have k0:=bU 0 ZO;have k1:=bU 1 ZO;have k2:=bU 2 ZO;have k3:=bU 3 ZO;have k4:=bU 4 ZO;have k5:=bU 5 ZO;have k6:=bU 6 ZO;have k7:=bU 7 ZO;have k8:=bU 8 ZO;simp only[ZD,ZE,ZG,Nat.add_zero] at k0 k1 k2 k3 k4 k5 k6 k7 k8;obtain⟨rb,Re⟩:=ZH2 (ZkC uE) (iy.out q);have wV:=HR.out.ok f (ZY uE);have fH:=(ZW wr.heap.size wr).alloc (ZL _) (.cells (Za f (.slice ea en rl)) 150);have hX:=ZBn wr 150 (Za f (.slice ea en rl));have mO:=HH.out.kept fH;have iZ:=ZH (eD.upd (T:=λ _=>False) (ZUb fH HH.out.upd.fresh) (λ h=>h));have rX:Hid (dD wr.heap.size=0):=ZH (HH.out.upd.fresh _ (ZL _));have fC:f.events.length<=1000:=wV.len;obtain⟨HX,gD,uq,Nj⟩:=ZH4 hX mO kG fC;obtain⟨x0,x1,x2,x3,x4,x5,x6,x7,x8⟩:=hX.aj;obtain⟨c6,c7,c8,c9,cP,cR,dX,dY⟩:=mO.blk.ag;have f9:=mO.blk.frozen 9;have f10:=mO.blk.frozen 10;have hlw:=mO.blk.lt;clear bU uE wV fH hX mO eD kG fC;by_cases cY:f.kind=3
   ·have pd:((f.kind:Int)==3)=true:=by simp[cY]
    have cC:=ZH cY;clear cY;go_wp2
    go_roundw
    case rel =>
     refine⟨q+1,dD,lv,ZO,ZN,?_⟩;rw[rb.out];unfold Zas;rw[if_pos cC.out];exact ZH (gD.out.tell ht rfl)
    case measure=>simp[intOf];omega
   ·by_cases dr:f.kind=4
    ·have pd:((f.kind:Int)==3)=false:=ZP;have ui:((f.kind:Int)==4)=true:=by simp[dr]
     obtain⟨cZ,cC⟩:=ZH2 dr cY;clear cY dr;go_wp2_with fail;obtain⟨W2,Es⟩:∃ W2,W2=(wr.alloc (.cells (Za f (.slice ea en rl)) 150)):=⟨_,rfl⟩;simp only[←Es] at *;clear Es c6 c7 c8 c9 cP cR dX dY x0 x1 x2 x3 x4 x5 x6 x7 x8;refine ZSg (λ w'=>Blk w' wr.heap.size 150 (Za f (.slice ea en rl))) [(0,3),(1,3),(2,3),(3,0),(4,0),(5,3),(6,1),(7,0),(8,3),(9,2)] (HX.out.ob (ZW W2.heap.size W2).drew) λ bR=>?_
     repeat((first | refine ZSa ?_ | refine ZSb ?_ | (refine Zf rfl (by rfl) (λ w' ci=>by(obtain⟨x0,x1,x2,x3,x4,x5,x6,x7,x8⟩:=Blk.aj ci);go_simp;with_reducible rfl) ?_));simp only[Act.put,ZA,ZB,ZC])
     refine ZSd λ K hK=>?_
     have fL:=gD.out.kept ((ZW W2.heap.size W2).drew);have e9:=fL.blk.cell 9;have g9:=fL.blk.frozen 9;have IG:=fL.blk.lt;simp only[ZD,ZE,ZG] at e9;go_simp;have ic:∀ (a:Addr) (v:Value) (w:World),w.drew.setCell a v=(w.setCell a v).drew:=λ _ _ _=>rfl
     have ie:=fL.put (lv' := .slice none 0 0) (log':=[]) (x := .slice none 0 0) ht (Upd.refl _ _ _ fL.upd.fresh) (RowAt.none_ _ _ _) rfl;have fp:Upd (· = t) dD dD W2.drew (W2.drew.setCell ⟨p,9,none⟩ (.slice none 0 0)):=(Upd.refl (· = t) dD _ fL.upd.fresh).setCell (p:=⟨p,9,none⟩) (λ _=>fL.mine) _;have iJ:=ie.blk.cell 10;have BV:=ie.blk.frozen 10;have wI:=ie.blk.lt;rw[ic] at iJ BV wI;simp only[ZD,ZE,ZG] at iJ;have dh:Upd (λ _=>False) dD dD W2 W2.drew:=ZUb (ZW W2.heap.size W2).drew gD.out.upd.fresh;obtain⟨i9,Dx,fU⟩:=ZH3 ((HX.out.ob (ZW W2.heap.size W2).drew).upd fp (by rw[rX.out];omega)) ((iZ.out.upd dh (λ h=>h)).upd fp ZO) ie;refine hK.out (λ w'=>Blk w' wr.heap.size 150 (Za f (.slice ea en rl))) _ _ (λ _ h=>h) i9.out (λ vS=>?_);clear hK K fL ie fp dh bR vS e9 g9 IG;repeat((first | refine ZSa ?_ | refine ZSb ?_ | (refine Zf rfl (by rfl) (λ w' ci=>by(obtain⟨x0,x1,x2,x3,x4,x5,x6,x7,x8⟩:=Blk.aj ci);go_simp;with_reducible rfl) ?_));simp only[Act.put,ZA,ZB,ZC])
     refine ZSe λ K hK=>?_
     go_simp;refine hK.out _ _ ?_;clear hK K iJ BV;refine ZSf ?_;have eC:=fU.out.tell ht (sent':=f.upto) (x := .int .i64 f.upto) rfl;have qG:Upd (· = t) dD dD (W2.drew.setCell ⟨p,9,none⟩ (.slice none 0 0)) ((W2.drew.setCell ⟨p,9,none⟩ (.slice none 0 0)).setCell ⟨p,10,none⟩ (.int .i64 f.upto)):=(Upd.refl (· = t) dD _ fU.out.upd.fresh).setCell (p:=⟨p,10,none⟩) (λ _=>fU.out.mine) _;rw[ic,ic] at eC qG;obtain⟨qk,Kf,gH⟩:=ZH3 (i9.out.upd qG (by rw[rX.out];omega)) (Dx.out.upd qG ZO) eC;generalize ((W2.setCell ⟨p,9,none⟩ (.slice none 0 0)).setCell ⟨p,10,none⟩ (.int .i64 f.upto)).drew=W5 at *;clear eC qG i9 Dx fU HX iZ gD wI;go_wp2_with fail;have SN:([]:List Ev).length<=1000:=ZM;refine ZSi [(0,3),(1,3),(2,0),(3,3),(4,0),(5,3),(6,0),(7,2),(8,3),(9,3),(10,2)] λ bR=>?_
     repeat((first | refine ZSa ?_ | refine ZSb ?_ | (refine Zf rfl (by rfl) (λ w' ci=>by(obtain⟨c6,c7,c8,c9,cP,cR,dX,dY⟩:=(gH.out.blk.ob ci.below).ag);(obtain⟨x0,x1,x2,x3,x4,x5,x6,x7,x8⟩:=(qk.out.ob ci.below).aj);go_simp;with_reducible rfl) ?_));simp only[Act.put,ZA,ZB,ZC])
     refine ZSe λ K hK=>?_
     have fL:=gH.out.kept ((ZW W5.heap.size W5).drew);have kG:=uq.out;have fC:=Nj.out;refine ZaT _ (.tmp 60) (.tmp 62) _ rfl 0 89 i0 _ 12 112 underlying128 hi cM cG cK rfl ZO (.slice none 0 0) 0 (evCells ([]:List Ev)) rfl fL.row.row W5.heap.size ea en rl (evCells f.events) rfl (Kf.out.sl.below (ZW W5.heap.size W5).drew).reads (Zbi _) ZF ZO (Nat.zero_le _) ?_;intro v7 w7 bX cN dP;obtain⟨a7,k7,rfl⟩:=Zs bX;obtain⟨d9,g9,LO,dH,wW,_⟩:=fL.append ht kG bX cN dP;rw[Nat.zero_add,List.nil_append] at wW;have xP:=ZH wW;refine hK.out _ _ ?_;clear hK K fL bX cN dP wW bR kG fC;repeat((first | refine ZSa ?_ | refine ZSb ?_ | refine ZSc ?_);simp only[Act.put,ZA,ZB,ZC])
     refine ZSe λ K hK=>?_
     go_simp;refine hK.out _ _ ?_;clear hK K d9 g9;refine ZSf ?_;go_wp2
     go_roundw
     case rel =>
      refine⟨q+1,dH,?lv1,Nat.succ_le_of_lt dy,?num1,?fin1⟩
      case fin1=>rw[rb.out];unfold Zas;rw[if_neg cC.out,if_pos cZ.out];exact xP
      case num1=>go_num
     case measure=>simp[intOf];omega
    ·have pd:((f.kind:Int)==3)=false:=ZP;have ui:((f.kind:Int)==4)=false:=ZP;obtain⟨cZ,cC⟩:=ZH2 dr cY;clear cY dr;go_wp2_with fail;obtain⟨W2,Es⟩:∃ W2,W2=(wr.alloc (.cells (Za f (.slice ea en rl)) 150)):=⟨_,rfl⟩;simp only[←Es] at *;clear Es c6 c7 c8 c9 cP cR dX dY x0 x1 x2 x3 x4 x5 x6 x7 x8;have Mu:=(EvSl.ab gD.out.row.row);obtain⟨al,cl,A9,_⟩:=Mu;subst A9;have SN:(nodeRecs (rs.take q)).1.length<=1000:=Re.out;refine ZSi [(0,3),(1,3),(2,0),(3,3),(4,0),(5,3),(6,0),(7,2),(8,3),(9,3),(10,2)] λ bR=>?_
     repeat((first | refine ZSa ?_ | refine ZSb ?_ | (refine Zf rfl (by rfl) (λ w' ci=>by(obtain⟨c6,c7,c8,c9,cP,cR,dX,dY⟩:=(gD.out.blk.ob ci.below).ag);(obtain⟨x0,x1,x2,x3,x4,x5,x6,x7,x8⟩:=(HX.out.ob ci.below).aj);go_simp;with_reducible rfl) ?_));simp only[Act.put,ZA,ZB,ZC])
     refine ZSe λ K hK=>?_
     have fL:=gD.out.kept ((ZW W2.heap.size W2).drew);have kG:=uq.out;have fC:=Nj.out;refine ZaT _ (.tmp 60) (.tmp 62) _ rfl 0 89 i0 _ 12 112 underlying128 hi cM cG cK rfl ZO (.slice al (nodeRecs (rs.take q)).1.length cl) (nodeRecs (rs.take q)).1.length (evCells (nodeRecs (rs.take q)).1) rfl fL.row.row W2.heap.size ea en rl (evCells f.events) rfl (iZ.out.sl.below (ZW W2.heap.size W2).drew).reads (Zbi _) ZF ZO (Nat.zero_le _) ?_;intro v7 w7 bX cN dP;obtain⟨a7,k7,rfl⟩:=Zs bX;obtain⟨d9,g9,LO,dH,wW,_⟩:=fL.append ht kG bX cN dP;have xP:=ZH wW;refine hK.out _ _ ?_;clear hK K fL bX cN dP wW bR kG fC;repeat((first | refine ZSa ?_ | refine ZSb ?_ | refine ZSc ?_);simp only[Act.put,ZA,ZB,ZC])
     refine ZSe λ K hK=>?_
     go_simp;refine hK.out _ _ ?_;clear hK K d9 g9;refine ZSf ?_;go_wp2
     go_roundw
     case rel =>
      refine⟨q+1,dH,?lv2,Nat.succ_le_of_lt dy,?num2,?fin2⟩
      case fin2=>rw[rb.out];unfold Zas;rw[if_neg cC.out,if_neg cZ.out];exact xP
      case num2=>go_num
     case measure=>simp[intOf];omega
  ·obtain rfl:q=rs.length:=ZO;rw[List.take_length] at HH;obtain⟨zo,HU⟩:=ZH2 (ZnR ht HH.out.upd.fresh HH.out.mine HH.out.blk HH.out.disk HH.out.row gN.out) HH.out.upd;clear HH;go_wp2_with fail;refine zo.out.mono ?_;rintro _ w8 ⟨rfl,p8,se,kz⟩;obtain⟨h1,RY,RO,Tj,Tp,Tl,h3,h4,h5,h6,h7,h8⟩:=se;have c7:=h3.cell 7;have f7:=h3.frozen 7;have Pd:=h3.lt;simp only[ZD,ZE,ZG] at c7;have Bg:Upd (· = t) p8 p8 w8 (w8.setCell ⟨p,7,none⟩ (.bool true)):=(Upd.refl (· = t) p8 w8 kz.fresh).setCell (p:=⟨p,7,none⟩) (λ _=>h1) _;have dx:NodeAt p8 t (w8.setCell ⟨p,7,none⟩ (.bool true)) p c r ⟨true,⟨recsBytes rs,false,false,d.keep⟩,(nodeRecs rs).1,(nodeRecs rs).2,(nodeRecs rs).1.foldl applyN [],clkOf (nodeRecs rs).1,[],waitN r (nodeRecs rs).2 (nodeRecs rs).1⟩ :=
    ⟨h1,RY,RO,Tj,Tp,Tl,h3.ai 7 _,h4.upd Bg ZO,h5.upd Bg ZO,h6.upd Bg ZO,h7.upd Bg ZO,h8.upd Bg ZO⟩
   obtain⟨sQ,qT⟩:=ZH2 ((HU.out.trans kz).trans (Bg.mono (T':=NodeT t) (λ m hm=>⟨ZO,ZO⟩))) dx;clear h3 h4 h5 h6 h7 h8 kz Bg dx;go_wp2_with fail;rw[Exit.noGoto_ret];go_ret;exact⟨rfl,p8,qT.out,sQ.out⟩
end
end
theorem ZnN(q r:Nat):LogOk q r (nodeRecs []).2 (nodeRecs []).1:=⟨by simp[nodeRecs],by simp[nodeRecs],λ i e h=>by simp[nodeRecs,waitN] at h,by simp[nodeRecs,waitN],by simp[nodeRecs]⟩
def NodeSt.new:NodeSt:=⟨true,Dk.new,[],0,[],ZCz,[],[]⟩
theorem ZqC{own:Own}{t:Nat}{w:World}{c:Cfg}{r:Nat}(ht:0<t)(hf:Fresh own w)(hc:c.Ok)(hr:r<c.n):
  Calls prog 30 #[ZdX c,.int .i64 r] w λ e w'=>∃ p own',e = .returned (.tuple #[ptrV p,.int .i64 0])/\w.heap.size<=p/\NodeAt own' t w' p c r NodeSt.new/\Upd (NodeT t) own own' w w':=by
 obtain⟨HB,df,sG,HF,HC⟩:=ZH5 (ZBn w 23 (Zal c)) ((ZKr w).alloc (.cells (Zal c) 23)) (Zla c hc (w.alloc (.cells (Zal c) 23))) hf hc;clear hf hc;have dR:∀ (x:Bool) (w:World),(Op.unary .not (.bool x)).run prog w = .ok (.bool (!x)) w:=λ _ _=>rfl
 have cG:decide ((r:Int)<0)=false:=ZM;have cK:decide ((r:Int)>=(c.n:Int))=false:=ZP;have pd:¬ (c.n:Int)<=(r:Int):=ZO;have ui:¬ (r:Int)<0:=ZO;go_enter func30,ntmps30;go_wp2_with fail;refine sG.out.mono ?_;rintro _ w1 ⟨rfl,bS⟩;have cW:=HB.out.ob bS;obtain⟨c0,c1,c2,c3,c4,c5⟩:=cW.aS;have mL:=cW.lt;have dE:=df.out.step bS;have co:Upd (λ _=>False) own own w w1:=ZUb dE.below HF.out;have bW:Blk (w1.alloc (.cells (nodeArr c r false (.pointer none) (.slice none 0 0) 0 (.pointer none) (.pointer none) (.pointer none)) 133)) w1.heap.size 133 (nodeArr c r false (.pointer none) (.slice none 0 0) 0 (.pointer none) (.pointer none) (.pointer none)):=ZBn _ _ _;have cm:Upd (λ _=>False) own own w (w1.alloc (.cells (nodeArr c r false (.pointer none) (.slice none 0 0) 0 (.pointer none) (.pointer none) (.pointer none)) 133)):=co.kept ((ZW _ _).alloc (ZL _) _);have cO:=cm.am (g:=w1.heap.size) co.size ZM t;have fq:=ZH (ZiW (own:=own.at_ w1.heap.size t) (rs:=[]) ht (by simp[Own.at_]) bW cO.fresh (.inr ⟨rfl,rfl⟩) Zgm (λ q=>by simp[nodeRecs]) (ZnN c.q r));have dL:=co.size;have dI:=ZH cO;clear cW bS dE co bW cm cO;go_wp2_with fail;refine fq.out.mono ?_;rintro _ w4 ⟨rfl,dG,hh,dS⟩;go_wp2_with fail;go_ret2
 exact⟨w1.heap.size,dG,rfl,dL,hh,(dI.out.mono (λ n h=>h.elim)).trans dS⟩
section
structure WS where
 nodes:Nat->PN
 hub:PH
 link:List (Nat × Frm)
structure St where
 kind:Nat
 r:Nat
 ek:Nat
 key:ByteArray
 label:Nat
 value:ByteArray
 at_:Int
 bit:Int
 mask:Nat
 keep:Int
 turned:Bool
def Zch(f:Nat->PN)(r:Nat)(x:PN):Nat->PN:=λ i=>if i=r then x else f i
theorem Zdj(f:Nat->PN)(r:Nat)(x:PN):Zch f r x r=x:=by simp[Zch]
theorem Zcp{f:Nat->PN}{r i:Nat}{x:PN}(h:i≠r):Zch f r x i=f i:=by simp[Zch,h]
def ZnQ:PN:=⟨NodeSt.new,[]⟩
def Zfe(c:Cfg):WS:=⟨λ _=>ZnQ,Zlt c,[]⟩
def Zgn(x:WS)(o:Option Frm × Nat):WS × Nat:=match o.1 with | some g=>(⟨x.nodes,x.hub,x.link++[(5,g)]⟩,0) | none=>(x,o.2)
def Zbt(c:Cfg)(r:Nat)(s:NodeSt)(kind:Nat):Option Frm × Nat:=if kind=1 then Zgj c r s else if kind=2 then Zdw 3 r s else Zdw 5 r s
def Zb8(c:Cfg)(x:WS)(to:Nat)(f:Frm):WS × Nat :=
 if to<c.n then(⟨Zch x.nodes to (Zbf c to (x.nodes to) f).1,x.hub,x.link⟩,(Zbf c to (x.nodes to) f).2)
 else(⟨x.nodes,(Zr c x.hub f).1,x.link++(match (Zr c x.hub f).2.1 with | some p=>[p] | none=>[])⟩,(Zr c x.hub f).2.2)
def Ze3(c:Cfg)(x:WS)(to:Nat):Nat:=if to<c.n then(if (x.nodes to).s.up=true then 4 else 18) else(if x.hub.s.up=true then 4 else 18)
def Zd2(x:WS)(s:St)(_p:Nat × Frm):List (Nat × Frm):=if s.kind=5 then x.link else x.link.eraseIdx s.at_.toNat
def ZcH(c:Cfg)(x:WS)(s:St):WS × Nat :=
 if s.at_<0 then(x,24) else
 match x.link[s.at_.toNat]? with
 | none=>(x,24)
 | some p =>
  if s.kind=6 then(⟨x.nodes,x.hub,Zd2 x s p⟩,0)
  else if s.kind=7/\s.turned=true then(⟨x.nodes,x.hub,Zd2 x s p⟩,Ze3 c x p.1)
  else Zb8 c ⟨x.nodes,x.hub,Zd2 x s p⟩ p.1 p.2
def ZbL(c:Cfg)(x:WS)(s:St):WS × Nat :=
 if s.r<c.n then
  (if s.kind=8 then(⟨Zch x.nodes s.r (Zdf (x.nodes s.r)),x.hub,x.link⟩,0)
  else if s.kind=9 then(⟨Zch x.nodes s.r (ZbS s.r (x.nodes s.r)).1,x.hub,x.link⟩,(ZbS s.r (x.nodes s.r)).2)
  else(⟨Zch x.nodes s.r (Znm (x.nodes s.r) s.keep),x.hub,x.link⟩,0))
 else if s.r=5 then
  (if s.kind=8 then(⟨x.nodes,Zde x.hub,x.link⟩,0)
  else if s.kind=9 then(⟨x.nodes,(ZbZ c x.hub).1,x.link⟩,(ZbZ c x.hub).2)
  else(⟨x.nodes,Znl x.hub s.keep,x.link⟩,0))
 else(x,1)
def Zab(c:Cfg)(x:WS)(s:St):WS × Nat :=
 if 4<=s.kind/\s.kind<=7 then ZcH c x s
 else if 8<=s.kind/\s.kind<=10 then ZbL c x s
 else if ¬ s.r<c.n then(x,1)
 else if s.kind=0 then(⟨Zch x.nodes s.r (Zep c s.r (x.nodes s.r) s.ek s.key s.label s.value).1,x.hub,x.link⟩,(Zep c s.r (x.nodes s.r) s.ek s.key s.label s.value).2)
 else if s.kind=11 then(⟨Zch x.nodes s.r (Zc7 s.r (x.nodes s.r)).1,x.hub,x.link⟩,(Zc7 s.r (x.nodes s.r)).2)
 else Zgn x (Zbt c s.r (x.nodes s.r).s s.kind)
structure StOk(c:Cfg)(s:St):Prop where
 kind:s.kind<=11
 r:s.r<c.n∨s.r=5
 edit:EditOk s.ek s.key s.label s.value
 mask:s.mask<4294967296
def FlG(c:Cfg)(B:Bd)(p:Nat × Frm):Prop:=(p.1<c.n/\NodeFrm c B p.1 p.2)∨(p.1=5/\HubFrm c B p.2)
structure WInv(c:Cfg)(B:Bd)(m b:Nat)(x:WS):Prop where
 nodes:∀ r,r<c.n->NodeInv c r B b (x.nodes r)
 own:∀ r,r<c.n->B.made r=ownN r (x.nodes r)
 hub:∃ H:Nat->Nat,(∀ i,B.hub i<=H i)/\HubInv c ⟨B.made,H⟩ x.hub/\(x.hub.s.up=true->B.hub=H)
 link:∀ p∈x.link,FlG c B p
 len:x.link.length<=b
 sum:tot B.made<=m
section
variable {c:Cfg}{B B':Bd}{m b r:Nat}{x:WS}{s:St}{y:PN}
theorem FlG.more{p:Nat × Frm}(h:FlG c B p)(hB:B.le B'):FlG c B' p:=by
 rcases h with ⟨h1,h2⟩|⟨h1,h2⟩
 ·exact .inl ⟨h1,h2.more hB⟩
 ·exact .inr ⟨h1,h2.more hB⟩
theorem WInv.more(h:WInv c B m b x){m' b':Nat}(hm:m<=m')(hb:b<=b'):WInv c B m' b' x :=
 ⟨λ r hr=>(h.nodes r hr).more (Bd.le.refl B) hb,h.own,h.hub,h.link,ZT h.len hb,ZT h.sum hm⟩
theorem WInv.setNode(h:WInv c B m b x)(hy:NodeInv c r B b y)(ho:ownN r y=ownN r (x.nodes r)):WInv c B m b ⟨Zch x.nodes r y,x.hub,x.link⟩:=by
 refine⟨λ i hi=>?_,λ i hi=>?_,h.hub,h.link,h.len,h.sum⟩
 ·by_cases e:i=r
  ·subst e;simp only[Zdj];exact hy
  ·simp only[Zcp e];exact h.nodes i hi
 ·by_cases e:i=r
  ·subst e;simp only[Zdj];rw[ho];exact h.own i hi
  ·simp only[Zcp e];exact h.own i hi
theorem WInv.aU(h:WInv c B m b x){l:List (Nat × Frm)}(hl:∀ p∈l,FlG c B p)(hn:l.length<=b):WInv c B m b ⟨x.nodes,x.hub,l⟩:=⟨h.nodes,h.own,h.hub,hl,hn,h.sum⟩
theorem WInv.aA(h:WInv c B m b x){y:PH}{H:Nat->Nat}(hH:∀ i,B.hub i<=H i)(hy:HubInv c ⟨B.made,H⟩ y)(hu:y.s.up=true->B.hub=H):WInv c B m b ⟨x.nodes,y,x.link⟩:=⟨h.nodes,h.own,⟨H,hH,hy,hu⟩,h.link,h.len,h.sum⟩
theorem Bd.aH{B:Bd}{H:Nat->Nat}(hH:∀ i,B.hub i<=H i):B.le ⟨B.made,H⟩:=⟨λ _=>ZL _,hH⟩
theorem WInv.grow(h:WInv c B m b x){H:Nat->Nat}(hH:∀ i,B.hub i<=H i){y:PH}(hy:HubInv c ⟨B.made,H⟩ y):WInv c ⟨B.made,H⟩ m b ⟨x.nodes,y,x.link⟩ :=
 ⟨λ r hr=>(h.nodes r hr).more (Bd.aH hH) (ZL _),h.own,⟨H,λ _=>ZL _,hy,λ _=>rfl⟩,λ p hp=>(h.link p hp).more (Bd.aH hH),h.len,h.sum⟩
theorem Zml{x:PH}{f:Frm}{p:Nat × Frm}(h:(Zr c x f).2.1=some p):(Zr c x f).1.s.up=true:=by
 unfold Zr Zax at h ⊢;repeat' split at h
 all_goals first|(cases h;done) | skip
 all_goals simp_all
theorem WInv.aN(h:WInv c B m b x)(hc:c.Ok)(hm:m<=100){f:Frm}(hf:HubFrm c B f):∃ B',B.le B'/\B'.made=B.made/\WInv c B' m b ⟨x.nodes,(Zr c x.hub f).1,x.link⟩/\((Zr c x.hub f).1.s.up=false->B'=B)/\∀ to g,(Zr c x.hub f).2.1=some (to,g)->NodeFrm c B' to g/\(Zr c x.hub f).2.2=0:=by
 obtain⟨H,hH,hi,hu⟩:=h.hub;obtain⟨⟨m1,H1⟩,hk⟩:=hi.take hc (ZT h.sum hm) (hf.more (Bd.aH hH));have e:m1=B.made:=hk.made;subst e;have KV:∀ i,B.hub i<=H1 i:=λ i=>ZT (hH i) (hk.le.hub i)
 by_cases dJ:(Zr c x.hub f).1.s.up=true
 ·exact⟨⟨B.made,H1⟩,Bd.aH KV,rfl,h.grow KV hk.inv,λ hd=>(by rw[dJ] at hd;cases hd),hk.reply⟩
 ·exact⟨B,Bd.le.refl B,rfl,h.aA KV hk.inv (λ jL=>absurd jL dJ),λ _=>rfl,λ to g hg=>absurd (Zml hg) dJ⟩
theorem NodeInv.new(c:Cfg)(r:Nat)(B:Bd)(b:Nat):NodeInv c r B b ZnQ:=⟨DiskInv.new c r B b,λ _=>⟨rfl,rfl,rfl,rfl,rfl,rfl,by simp[ZnQ,NodeSt.new],by simp[ZnQ,NodeSt.new]⟩⟩
theorem WInv.new(c:Cfg):WInv c ⟨λ _=>0,λ _=>0⟩ 0 0 (Zfe c) :=
 ⟨λ r _=>NodeInv.new c r _ 0,λ r _=>rfl,⟨λ _=>0,λ _=>ZL _,HubInv.new λ _=>rfl,λ _=>rfl⟩,by simp[Zfe],by simp[Zfe],ZL _⟩
theorem NodeInv.take(h:NodeInv c r B b y)(hr:r<5)(hc:c.h<=20)(hb:tot B.made<=100)(hs:b<=700){f:Frm}(hf:NodeFrm c B r f):NodeInv c r B b (Zbf c r y f).1/\ownN r (Zbf c r y f).1=ownN r y:=by
 unfold Zbf;split
 ·rename_i hu;split
  ·exact h.aI hu hr hb hs hf.upto
  ·exact h.events hu hr hc hb hs hf.evs
 ·exact⟨h,rfl⟩
theorem NodeInv.tell(h:NodeInv c r B b y)(hr:r<c.n)(hc:c.Ok)(hb:tot B.made<=100){kind:Nat}{g:Frm}(hg:(Zbt c r y.s kind).1=some g):HubFrm c B g/\(Zbt c r y.s kind).2=0:=by
 have eC:r<5:=by have:=hc.n5;omega
 have AG:y.s.up=true->∀ i,y.s.clk.get i<=B.made i:=λ hu i=>by rw[h.clk hu];exact(h.log hu).az i
 have ht:∀ k,(k=3∨k=5)->(Zdw k r y.s).1=some g->HubFrm c B g/\(Zdw k r y.s).2=0:=λ k hk hg=>by
  unfold Zdw at hg ⊢;split at hg
  ·rename_i hu;injection hg with hg;subst hg;refine⟨⟨Zm7 hk eC λ i=>?_,hr,.inr hk,λ h1=>?_,AG hu⟩,by rw[if_pos hu]⟩
   ·by_cases hi:i<5
    ·have:=AG hu i;have:=ZcY hb hi;omega
    ·rw[Clk.aq _ ZO];omega
   ·simp only[ZbU] at h1;omega
  ·cases hg
 unfold Zbt at hg ⊢;split at hg
 ·rename_i hk;rw[if_pos hk];unfold Zgj at hg ⊢;split at hg
  ·rename_i hu;rw[if_pos hu];split at hg
   ·cases hg
   ·rename_i hw;rw[if_neg hw];injection hg with hg;subst hg;have hl:=h.log hu;have PF:y.s.wait=(byR r y.s.log).drop y.s.sent:=by rw[(h.up hu).wait];exact hl.wait
    have eK:∀ e∈y.s.wait.take c.w,EvG c B e/\e.r=r:=λ e he=>by
     have:=List.mem_of_mem_take he;rw[PF] at this;obtain⟨h1,h2⟩:=Zjl.1 (List.mem_of_mem_drop this);exact⟨hl.all e h1,h2⟩
    have dl:=hc.w1;have lX:=hc.w4;have hlen:(y.s.wait.take c.w).length<=4/\1<=(y.s.wait.take c.w).length:=by rw[ZV];omega
    refine⟨⟨ZlA eC ZO hlen.2 (λ e he=>⟨(eK e he).1.ok,(eK e he).2⟩),hr,.inl rfl,λ _=>⟨λ e he=>(eK e he).1,1+y.s.sent,?_,?_⟩,λ i=>by simp only[ZbM];rw[ZbW];omega⟩,rfl⟩
    ·simp only[ZbM];refine From1.take ?_ _;rw[PF];exact(hl.row r).drop _
    ·simp only[ZbM];have:=hl.sentH;omega
  ·cases hg
 ·rename_i hk;rw[if_neg hk];split at hg
  ·rename_i h2;rw[if_pos h2];exact ht 3 ZO hg
  ·rename_i h2;rw[if_neg h2];exact ht 5 ZO hg
theorem WInv.bD(h:WInv c B m b x)(hc:c.Ok)(hm:m<=100)(hb:b<=700)(hl:x.link.length+1<=b){p:Nat × Frm}(hp:FlG c B p):∃ B',B.le B'/\B'.made=B.made/\WInv c B' m b (Zb8 c x p.1 p.2).1/\((Zb8 c x p.1 p.2).1.hub.s.up=false->B'=B):=by
 have ht:tot B.made<=100:=ZT h.sum hm;unfold Zb8;rcases hp with ⟨hn,hf⟩|⟨h5,hf⟩
 ·rw[if_pos hn];obtain⟨h1,h2⟩:=(h.nodes _ hn).take (by have:=hc.n5;omega) hc.h20 ht hb hf;exact⟨B,Bd.le.refl B,rfl,h.setNode h1 h2,λ _=>rfl⟩
 ·rw[if_neg (by have:=hc.n5;omega)];obtain⟨B',k1,k2,k3,k4,k5⟩:=h.aN hc hm hf;refine⟨B',k1,k2,k3.aU (λ q hq=>?_) ?_,k4⟩
  ·rcases List.mem_append.1 hq with hq | hq
   ·exact k3.link q hq
   ·split at hq
    ·rename_i y hy;simp at hq;subst hq;have:=(k5 _ _ hy).1;exact .inl ⟨this.n,this⟩
    ·cases hq
  ·rw[ZI];split <;> simp <;> omega
theorem WInv.pick(h:WInv c B m b x)(s:St)(p:Nat × Frm):WInv c B m b ⟨x.nodes,x.hub,Zd2 x s p⟩:=by
 unfold Zd2;refine h.aU (λ q hq=>?_) ?_
 ·split at hq
  ·exact h.link q hq
  ·exact h.link q (List.mem_of_mem_eraseIdx hq)
 ·split
  ·exact h.len
  ·exact ZT (List.length_eraseIdx_le _ _) h.len
theorem WInv.aW(h:WInv c B m b x)(hc:c.Ok)(hm:m<=100):∃ B',B.le B'/\B'.made=B.made/\WInv c B' m b ⟨x.nodes,(ZbZ c x.hub).1,x.link⟩:=by
 obtain⟨H,hH,hi,hu⟩:=h.hub;exact⟨⟨B.made,H⟩,Bd.aH hH,rfl,h.grow hH (hi.start hc (ZT h.sum hm))⟩
theorem ZpK(c:Cfg)(x:PH):(ZbZ c x).1.s.up=true:=by
 unfold ZbZ;split
 ·assumption
 ·rfl
theorem WInv.step(h:WInv c B m b x)(hc:c.Ok)(hm:m<=99)(hb:b<=699)(hs:StOk c s):∃ B',B.le B'/\WInv c B' (m+if s.kind=0 then 1 else 0) (b+1) (Zab c x s).1/\((Zab c x s).1.hub.s.up=false->B'.hub=B.hub):=by
 have h5:=hc.n5;have ht:tot B.made<=100:=ZT h.sum ZO;have h':=h.more (ZL m) (Nat.le_succ b);unfold Zab;by_cases hk:4<=s.kind/\s.kind<=7
 ·rw[if_pos hk,if_neg (show ¬ s.kind=0 by omega),Nat.add_zero];unfold ZcH;split
  ·exact⟨B,Bd.le.refl B,h',λ _=>rfl⟩
  ·split
   ·exact⟨B,Bd.le.refl B,h',λ _=>rfl⟩
   ·rename_i p hp;have hg:=h.link p (ZY hp);split
    ·exact⟨B,Bd.le.refl B,h'.pick s p,λ _=>rfl⟩
    ·split
     ·exact⟨B,Bd.le.refl B,h'.pick s p,λ _=>rfl⟩
     ·obtain⟨B',h1,h2,h3,h4⟩:=(h'.pick s p).bD hc ZO ZO (by have:=(h.pick s p).len;simp only at this ⊢;omega) hg;exact⟨B',h1,h3,λ hd=>by rw[h4 hd]⟩
 ·rw[if_neg hk];by_cases cJ:8<=s.kind/\s.kind<=10
  ·rw[if_pos cJ,if_neg (show ¬ s.kind=0 by omega),Nat.add_zero];unfold ZbL;split
   ·rename_i hr;refine⟨B,Bd.le.refl B,?_,λ _=>rfl⟩;have hn:=h'.nodes _ hr;split
    ·exact h'.setNode hn.aF rfl
    ·split
     ·refine h'.setNode (hn.start ZO ZO) ?_;unfold ZbS;split <;> rfl
     ·exact h'.setNode (hn.cut _) rfl
   ·split
    ·obtain⟨H,hH,hi,hu⟩:=h'.hub;split
     ·exact⟨B,Bd.le.refl B,h'.aA hH hi.aF (λ hu=>by simp[Zde] at hu),λ _=>rfl⟩
     ·split
      ·obtain⟨B',k1,k2,k3⟩:=h'.aW hc ZO;exact⟨B',k1,k3,λ hd=>by simp only[ZpK] at hd;cases hd⟩
      ·exact⟨B,Bd.le.refl B,h'.aA hH (hi.cut _) hu,λ _=>rfl⟩
    ·exact⟨B,Bd.le.refl B,h',λ _=>rfl⟩
  ·rw[if_neg cJ];by_cases hr:s.r<c.n
   ·rw[if_neg (show ¬ ¬ s.r<c.n by simpa using hr)];by_cases cA:s.kind=0
    ·rw[if_pos cA,if_pos cA];obtain⟨B',he⟩:=(h.nodes _ hr).edit hr h5 ht ZO hs.edit;obtain⟨H,hH,hi,hu⟩:=h.hub;refine⟨B',he.le,⟨λ i hi=>?_,λ i hi=>?_,⟨H,λ i=>by rw[he.hub];exact hH i,hi.more ⟨he.le.made,λ _=>ZL _⟩ rfl,λ jL=>by rw[he.hub];exact hu jL⟩,λ p hp=>(h.link p hp).more he.le,by have:=h.len;simp only;omega,ZT he.tot (Nat.succ_le_succ h.sum)⟩,λ _=>he.hub⟩
     ·by_cases e:i=s.r
      ·subst e;simp only[Zdj];exact he.inv.more (Bd.le.refl _) (Nat.le_succ b)
      ·simp only[Zcp e];exact(h.nodes i hi).more he.le (Nat.le_succ b)
     ·by_cases e:i=s.r
      ·subst e;simp only[Zdj];exact he.own (h.own _ hr)
      ·simp only[Zcp e];rw[he.same i e];exact h.own i hi
    ·rw[if_neg cA,if_neg cA,Nat.add_zero];refine⟨B,Bd.le.refl B,?_,λ _=>rfl⟩;by_cases AY:s.kind=11
     ·rw[if_pos AY];have ed:=(h.nodes _ hr).state ZO ZO;exact h'.setNode ed (h.nodes _ hr).bg
     ·rw[if_neg AY];unfold Zgn;split
      ·rename_i g hg;have:=((h.nodes _ hr).tell hr hc ht hg).1;refine h'.aU (λ p hp=>?_) (by rw[ZI];have:=h.len;simp only[List.length_singleton];omega);rcases List.mem_append.1 hp with hp | hp
       ·exact h'.link p hp
       ·simp at hp;subst hp;exact .inr ⟨rfl,this⟩
      ·exact h'
   ·rw[if_pos (show ¬ s.r<c.n from hr)];exact⟨B,Bd.le.refl B,h'.more ZO (ZL _),λ _=>rfl⟩
end
end
structure RawSt where
 kind:Int
 r:Int
 ek:Int
 key:ByteArray
 label:Int
 value:ByteArray
 at_:Int
 bit:Int
 mask:Int
 keep:Int
structure RawOk(s:RawSt):Prop where
 key:s.key.size<=140737488351232
 value:s.value.size<=140737488351232
 mask0:0<=s.mask
 mask:s.mask<4294967296
def Zle(x k:Int):Int:=(x.tmod k+k).tmod k
theorem ZrL(x k:Int):Zed x k=1+Zle x k:=rfl
theorem Zns(x:Int){k:Int}(hk:0<k):0<=Zle x k/\Zle x k<k:=by
 have h:=Zb2 x hk;rw[ZrL] at h;omega
theorem ZsW(x:Int){k:Int}(hk:0<k)(cJ:k<=1000):(wrap64 (x.tmod k+k)).tmod k=((Zle x k).toNat:Int):=by
 have h1:=Int.tmod_lt_of_pos x hk;have h2 : -k<x.tmod k:=by
  have:=Int.tmod_lt_of_pos (-x) hk;rw[Int.neg_tmod] at this;omega
 have h3:=Zns x hk;have e0:wrap64 (x.tmod k+k)=x.tmod k+k:=w64 ZO ZO;have e:(x.tmod k+k).tmod k=Zle x k:=rfl;rw[e0,e];omega
section
open Go.RowKit Go.ChangeShapes Go.WideShapes Go.Deep
def Zdi(s:RawSt):List Value:=[.int .i64 s.kind,.int .i64 s.r,.int .i64 s.ek,.string s.key,.int .i64 s.label,.string s.value,.int .i64 s.at_,.int .i64 s.bit,.int .u32 s.mask,.int .i64 s.keep]
theorem Zrv{α : Type}{l:List α}(h:l.length=4):∃ a b c d,l=[a,b,c,d]:=by
 match l,h with
 | [a,b,c,d],_=>exact⟨a,b,c,d,rfl⟩
theorem Zrw{α : Type}{l:List α}(h:l.length=6):∃ a b c d e f,l=[a,b,c,d,e,f]:=by
 match l,h with
 | [a,b,c,d,e,f],_=>exact⟨a,b,c,d,e,f,rfl⟩
theorem ZsK{α : Type}{l:List α}(h:l.length=7):∃ a b c d e f g,l=[a,b,c,d,e,f,g]:=by
 match l,h with
 | [a,b,c,d,e,f,g],_=>exact⟨a,b,c,d,e,f,g,rfl⟩
theorem Zsx{α : Type}{l:List α}(h:l.length=10):∃ a b c d e f g i j k,l=[a,b,c,d,e,f,g,i,j,k]:=by
 match l,h with
 | [a,b,c,d,e,f,g,i,j,k],_=>exact⟨a,b,c,d,e,f,g,i,j,k,rfl⟩
theorem ZcG:prog.cellsOf 3=1:=ZK
theorem ZoK:prog.cellsOf 9=1:=ZK
theorem ZmN:prog.cellsOf 33=4:=ZK
theorem ZrD:prog.cellsOf 34=1:=ZK
theorem ZmO:prog.cellsOf 36=10:=ZK
theorem ZrC:prog.cellsOf 23=6:=ZK
section
variable {H:Type}{enc:TypeId × Value->H}{w:World}{base:Nat}{spare:Nat->Bool}{held:Bool}
theorem Zcs{n:Nat}{t:TypeId}{cs:List Value}{o k:Nat}{x:Option (DataW H × List MemPlace)}(h:DataW.trod enc prog w base spare held n t ((cs.drop o).take (prog.cellsOf t))=x)(hk:prog.cellsOf t=k):
  DataW.trod enc prog w base spare held n t ((cs.drop o).take k)=x:=by rw[←hk];exact h
theorem Zpn{n:Nat}{cs:List Value}{y:DataW H × List MemPlace}(h:DataW.trod enc prog w base spare held n 33 cs=some y):
  ∃ (k l:Int) (key value:ByteArray),cs=[.int .i64 k,.string key,.int .i64 l,.string value]/\y.1 = .agg [.lit (.int .i64 k),.lit (.string key.data.toList),.lit (.int .i64 l),.lit (.string value.data.toList)]:=by
 obtain⟨ys,m,rfl,rfl,eX,yZ,hf⟩:=DataW.trod_struct underlying33 h;rw[ZmN] at eX;obtain⟨c0,c1,c2,c3,rfl⟩:=Zrv eX;obtain⟨y0,y1,y2,y3,rfl⟩:=Zrv yZ;obtain⟨k,e0,rfl,_⟩:=DataW.trod_int underlying3 (Zcs (hf 0 _ rfl) ZcG);obtain⟨key,e1,rfl,_⟩:=DataW.trod_string underlying9 (Zcs (hf 1 _ rfl) ZoK);obtain⟨l,e2,rfl,_⟩:=DataW.trod_int underlying3 (Zcs (hf 2 _ rfl) ZcG);obtain⟨value,e3,rfl,_⟩:=DataW.trod_string underlying9 (Zcs (hf 3 _ rfl) ZoK);simp at e0 e1 e2 e3;subst e0 e1 e2 e3;exact⟨k,l,key,value,rfl,rfl⟩
def ZlF(H:Type)(s:RawSt):DataW H := .agg [.lit (.int .i64 s.kind),.lit (.int .i64 s.r),.agg [.lit (.int .i64 s.ek),.lit (.string s.key.data.toList),.lit (.int .i64 s.label),.lit (.string s.value.data.toList)],.lit (.int .i64 s.at_),.lit (.int .i64 s.bit),.lit (.int .u32 s.mask),.lit (.int .i64 s.keep)]
theorem ZsR{n:Int}(h:(Lit.int .u32 n).wf=true):0<=n/\n<4294967296:=by
 have h':=h;simp only[Lit.wf,Bool.and_eq_true,decide_eq_true_eq] at h';have e1:IntKind.u32.min=0:=ZJ;have e2:IntKind.u32.max=4294967295:=ZJ;rw[e1,e2] at h';omega
theorem ZqE{n:Nat}{cs:List Value}{y:DataW H × List MemPlace}(h:DataW.trod enc prog w base spare held n 36 cs=some y):
  ∃ s:RawSt,cs=Zdi s/\y.1=ZlF H s/\0<=s.mask/\s.mask<4294967296:=by
 obtain⟨ys,m,rfl,rfl,eX,yZ,hf⟩:=DataW.trod_struct underlying36 h;rw[ZmO] at eX;obtain⟨c0,c1,c2,c3,c4,c5,c6,c7,c8,c9,rfl⟩:=Zsx eX;obtain⟨y0,y1,y2,y3,y4,y5,y6,rfl⟩:=ZsK yZ;obtain⟨a0,e0,rfl,_⟩:=DataW.trod_int underlying3 (Zcs (hf 0 _ rfl) ZcG);obtain⟨a1,e1,rfl,_⟩:=DataW.trod_int underlying3 (Zcs (hf 1 _ rfl) ZcG);obtain⟨k,l,key,value,e2,Ta⟩:=Zpn (Zcs (hf 2 _ rfl) ZmN);obtain⟨a3,e3,rfl,_⟩:=DataW.trod_int underlying3 (Zcs (hf 3 _ rfl) ZcG);obtain⟨a4,e4,rfl,_⟩:=DataW.trod_int underlying3 (Zcs (hf 4 _ rfl) ZcG);obtain⟨a5,e5,rfl,w5⟩:=DataW.trod_int underlying34 (Zcs (hf 5 _ rfl) ZrD);obtain⟨a6,e6,rfl,_⟩:=DataW.trod_int underlying3 (Zcs (hf 6 _ rfl) ZcG);simp at e0 e1 e2 e3 e4 e5 e6;obtain⟨rfl,rfl,rfl,rfl⟩:=e2;subst e0 e1 e3 e4 e5 e6;refine⟨⟨a0,a1,k,key,l,value,a3,a4,a5,a6⟩,rfl,?_,ZsR w5⟩;simp only[List.map,Ta];rfl
theorem ZlG(s:RawSt):s.key.size∈(ZlF H s).weights prog 36/\s.value.size∈(ZlF H s).weights prog 36:=by
 simp[ZlF,DataW.weights,DataW.weightsEach,underlying36,underlying33]
theorem ZsG{s:RawSt}(h:∀ m∈(ZlF H s).weights prog 36,m<=reachBytes)(h0:0<=s.mask)(h1:s.mask<4294967296):RawOk s :=
 ⟨h _ (ZlG s).1,h _ (ZlG s).2,h0,h1⟩
theorem Zh6{P:Program}{e:TypeId}{d:DataW H}:∀ {l:List (DataW H)},d∈l->∀ n∈d.weights P e,n∈DataW.weightsAll P e l
 | [],h,_,_=>by cases h
 | x::l,h,n,hn=>by
  simp only[DataW.weightsAll,List.mem_append];rcases List.mem_cons.1 h with rfl | h
  ·exact .inl hn
  ·exact .inr (Zh6 h n hn)
theorem ZsH{r:Reach}{b0:Nat}{v:Value}{d:DataW H}{p:List MemPlace}(hv:Value.okWide prog w r b0 23 v)(h:DataW.Trod enc prog w base spare held 23 v d p):
  ∃ x0 x1 x2 x3 x4 x5:Int,v = .agg #[.int .i64 x0,.int .i64 x1,.int .i64 x2,.int .i64 x3,.int .i64 x4,.int .i64 x5]:=by
 obtain⟨cs,rfl,dL⟩:=okWide_struct underlying23 hv;rw[ZrC] at dL;obtain⟨KH,hf⟩:=h;obtain⟨ys,m,rfl,_,eX,yZ,hf⟩:=DataW.trod_struct underlying23 hf;obtain⟨c0,c1,c2,c3,c4,c5,hl⟩:=Zrw (l:=cs.toList) (by simpa using dL);obtain⟨y0,y1,y2,y3,y4,y5,rfl⟩:=Zrw yZ;obtain rfl:cs=#[c0,c1,c2,c3,c4,c5]:=by rw[←Array.toArray_toList (xs:=cs),hl]
 obtain⟨a0,e0,_⟩:=DataW.trod_int underlying3 (Zcs (hf 0 _ rfl) ZcG);obtain⟨a1,e1,_⟩:=DataW.trod_int underlying3 (Zcs (hf 1 _ rfl) ZcG);obtain⟨a2,e2,_⟩:=DataW.trod_int underlying3 (Zcs (hf 2 _ rfl) ZcG);obtain⟨a3,e3,_⟩:=DataW.trod_int underlying3 (Zcs (hf 3 _ rfl) ZcG);obtain⟨a4,e4,_⟩:=DataW.trod_int underlying3 (Zcs (hf 4 _ rfl) ZcG);obtain⟨a5,e5,_⟩:=DataW.trod_int underlying3 (Zcs (hf 5 _ rfl) ZcG);simp[Value.cells] at e0 e1 e2 e3 e4 e5;subst e0 e1 e2 e3 e4 e5;exact⟨a0,a1,a2,a3,a4,a5,rfl⟩
theorem Znk{w:World}{a:Addr}{v:Value}(h:w.cell? a=some v):a.block<w.heap.size:=by
 rcases Nat.lt_or_ge a.block w.heap.size with ce | my
 ·exact ce
 ·simp[World.cell?,Array.getElem?_eq_none my] at h
theorem Zkj{a:Addr}{g:Nat->RawSt}:∀ n,(∀ i,i<n->∀ j,j<10->w.cell? ((a.add (i*10)).add j)=(Zdi (g i))[j]?)->∀ j u,(((List.range n).map g).flatMap Zdi)[j]? = some u->w.cell? (a.add j)=some u
 | 0,_,j,u,h=>by simp at h
 | n+1,hc,j,u,h=>by
  have hl:∀ k,(((List.range k).map g).flatMap Zdi).length=k*10:=λ k=>by
   induction k with
   | zero=>rfl
   | succ k ih=>rw[List.range_succ,List.map_append,List.flatMap_append,ZI,ih];simp[Zdi];omega
  rw[List.range_succ,List.map_append,List.flatMap_append] at h;rcases Nat.lt_or_ge j (n*10) with hj | hj
  ·rw[List.getElem?_append_left (by rw[hl];exact hj)] at h;exact Zkj n (λ i hi=>hc i ZO) j u h
  ·rw[List.getElem?_append_right (by rw[hl];exact hj),hl] at h;have h2:(Zdi (g n))[j-n*10]? = some u:=by simpa using h
   have h3:j-n*10<10:=by
    have:=(ZZ.1 h2).1;simpa [Zdi] using this
   have h4:=hc n ZO (j-n*10) h3;rw[Zne,show n*10+(j-n*10)=j by omega] at h4;rw[h4,h2]
theorem ZsL{r:Reach}{b0:Nat}{v:Value}{d:DataW H}{p:List MemPlace}(hv:Value.okWide prog w r b0 24 v)(h:DataW.Trod enc prog w base spare held 24 v d p)(hz:∀ m∈d.weights prog 24,m<=reachBytes):
  ∃ a n cap ss,v = .slice a n cap/\n=List.length ss/\(∀ s∈ss,RawOk s)/\Reads w w.heap.size 10 a n (ss.flatMap Zdi)/\n<9223372036854775807:=by
 obtain⟨a0,jZ,lg,rfl⟩:=okWide_slice underlying24 hv;obtain⟨KH,hf⟩:=h;rcases open_slice underlying24 hf with ⟨gz,_⟩|⟨a,len,cap,m,n,D,Pl,gz,_,hl,hm,iP,hx,hi⟩
 ·simp[Value.cells] at gz;obtain⟨rfl,rfl,rfl⟩:=gz;exact⟨none,0,0,[],rfl,rfl,ZM,Reads.none_,ZO⟩
 ·simp[Value.cells] at gz;obtain⟨rfl,rfl,rfl⟩:=gz;simp only[Prod.mk.injEq] at hx;obtain⟨rfl,_⟩:=hx;have Fo:jZ<=m:=by rw[iP];split <;> omega
  have wz:∀ i:Nat,∃ s:RawSt,i<jZ->RawOk s/\∀ j,j<10->w.cell? ((a.add (i*10)).add j)=(Zdi s)[j]? := (λ i=>by
   by_cases ce:i<jZ
   ·obtain⟨vM,hc,ht⟩:=hi i ZO;rw[ZmO] at hc;obtain⟨s,rfl,hy,h0,h1⟩:=ZqE ht;obtain⟨_,_,iL⟩:=World.cells?_some hc;refine⟨s,λ _=>⟨ZsG (H:=H) (λ m tM=>hz m ?_) h0 h1,λ j hj=>iL j hj⟩⟩;simp only[DataW.weights,underlying24,List.mem_cons,List.mem_append];exact .inr (.inl (Zh6 (List.mem_map.2 ⟨i,List.mem_range.2 ce,hy⟩) m tM))
   ·exact⟨⟨0,0,0,ByteArray.empty,0,ByteArray.empty,0,0,0,0⟩,λ h=>absurd h ce⟩)
  obtain⟨g,hg⟩:=Classical.skolem.1 wz;have eR:∀ k,(((List.range k).map g).flatMap Zdi).length=k*10:=λ k=>by
   induction k with
   | zero=>rfl
   | succ k ih=>rw[List.range_succ,List.map_append,List.flatMap_append,ZI,ih];simp[Zdi];omega
  refine⟨some a,jZ,lg,(List.range jZ).map g,rfl,ZM,λ s hs=>?_,⟨eR _,λ hn=>⟨a,rfl,?_,Zkj jZ (λ i hi=>(hg i hi).2)⟩⟩,?_⟩
  ·obtain⟨i,hi,rfl⟩:=List.mem_map.1 hs;exact(hg i (List.mem_range.1 hi)).1
  ·have h1:=(hg 0 hn).2 0 ZO;have h2:=Znk (h1.trans (show(Zdi (g 0))[0]? = some (.int .i64 (g 0).kind) from rfl));rwa [Ze4,Ze4] at h2
  ·have h1:jZ*prog.bytesOf 36<=reachBytes:=by
    have h2:=hz _ (by simp only[DataW.weights,underlying24];exact List.mem_cons_self);have h3:jZ*prog.bytesOf 36<=(List.length ((List.range jZ).map D)+List.length ((List.range (m-jZ)).map λ j=>D (jZ+j)))*prog.bytesOf 36:=Nat.mul_le_mul_right _ ZM;exact ZT h3 h2
   have hb:1<=prog.bytesOf 36:=by rw[show prog.bytesOf 36=96 by kernel_rfl];omega
   have h4:jZ*1<=jZ*prog.bytesOf 36:=Nat.mul_le_mul_left _ hb;have h5:reachBytes<2 ^ 47:=reachBytes_lt;omega
end
end
end Go.Proofs.YtjkfognelhiepaaGreat
