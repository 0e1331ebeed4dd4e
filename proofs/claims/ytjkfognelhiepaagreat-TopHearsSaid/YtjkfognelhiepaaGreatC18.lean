import Derived.Test.YtjkfognelhiepaaGreatC17
namespace Go.Proofs.YtjkfognelhiepaaGreat
open Go.RowKit _root_.Go.Proofs.Tryz
set_option maxRecDepth 100000
set_option maxHeartbeats 8000000
section
section
variable {w w':World}{a:Option Addr}{n cap:Nat}{cs:List Con}
theorem ConSl.below(h:ConSl w a n cap cs)(hb:Below w.heap.size w w'):ConSl w' a n cap cs:=by
 obtain⟨h1,h2,h3⟩:=h;refine⟨h1,h2,?_⟩;rcases h3 with h3 | ⟨b,off,rfl,ce,hc⟩
 ·exact .inl h3
 ·refine .inr ⟨b,off,rfl,ZR ce hb.size,λ i c hi=>?_⟩;obtain⟨a0,n0,c0,a1,n1,c1,bU,fx,jF⟩:=hc i c hi;exact⟨a0,n0,c0,a1,n1,c1,λ j hj=>by rw[hb.cell (p:=⟨b,off+i*7+j,none⟩) ce];exact bU j hj,fx.below hb,jF.below hb⟩
theorem StrSl.bl{B:Nat}{v:Value}{ss:List ByteArray}(h:w.ownsRow B 9 1 v ss.length (ss.map Value.string)):∃ a c,v = .slice a ss.length c/\StrSl w a ss.length c ss:=by
 obtain⟨a,c,rfl⟩:=Zs h;have fc:ss.length<=c:=by
  rcases h.2 with ⟨h0,h1⟩|⟨g,cap,cur,h0,_,_,eH,_⟩
  ·injection h0 with _ _ h0
   omega
  ·injection h0 with _ _ h0
   omega
 refine⟨a,c,rfl,fc,rfl,?_⟩;by_cases h0:ss.length=0
 ·exact .inl h0
 ·obtain⟨g,hg,eB,bU⟩:=Zby h ZO;refine .inr ⟨g,0,hg,eB,λ i s hs=>?_⟩;have hi:=(ZZ.1 hs).1;rw[Nat.zero_add,bU i (by simp;exact hi),List.getElem?_map,hs];rfl
theorem ZgU:∀ (ps:List (Con × Value × Value)) (i j:Nat) (p:Con × Value × Value),ps[i]? = some p->j<7->(conCells ps)[i*7+j]? = (Za3 p.1 p.2.1 p.2.2)[j]?
 | [],i,j,e,h,_=>by simp at h
 | x::ps,0,j,e,h,hj=>by
  simp at h;subst h;simp only[conCells,List.flatMap_cons,Nat.zero_mul,Nat.zero_add];rw[List.getElem?_append_left ZP];simp
 | x::ps,i+1,j,e,h,hj=>by
  have ih:=ZgU ps i j e (by simpa using h) hj;rw[←ih];simp only[conCells,List.flatMap_cons];rw[List.getElem?_append_right ZP];congr 1;simp;omega
theorem Zk1(ps:List (Con × Value × Value)):(conCells ps).length=ps.length*7:=by
 induction ps with
 | nil=>rfl
 | cons e es ih =>
  simp only[conCells,List.flatMap_cons,ZI,List.length_cons] at ih ⊢;rw[ih];simp;omega
theorem ConSl.bA{B:Nat}{v:Value}{ps:List (Con × Value × Value)}(h:ConRows B w v ps):∃ a c,v = .slice a ps.length c/\ConSl w a ps.length c (ps.map (·.1)):=by
 obtain⟨a,c,rfl⟩:=Zs h.row;have fc:ps.length<=c:=by
  rcases h.row.2 with ⟨h0,h1⟩|⟨g,cap,cur,h0,_,_,eH,_⟩
  ·injection h0 with _ _ h0
   omega
  ·injection h0 with _ _ h0
   omega
 refine⟨a,c,rfl,fc,ZM,?_⟩;by_cases h0:ps.length=0
 ·exact .inl h0
 ·obtain⟨g,hg,eB,bU⟩:=Zby h.row ZO;refine .inr ⟨g,0,hg,eB,λ i c hi=>?_⟩;rw[List.getElem?_map] at hi;obtain⟨p,hp,rfl⟩:=Option.map_eq_some_iff.1 hi;have nQ:=(ZZ.1 hp).1;obtain⟨a0,c0,Sc,fx⟩:=StrSl.bl (h.s0 p (ZY hp));obtain⟨a1,c1,Sd,jF⟩:=StrSl.bl (h.s1 p (ZY hp));refine⟨a0,_,c0,a1,_,c1,λ j hj=>?_,fx,jF⟩;rw[Nat.zero_add,bU _ (by rw[Zk1];omega),ZgU ps i j p hp hj,←Sc,←Sd]
end
def Zco(L P:Nat)(cs:List Con)(kind:Nat)(key:ByteArray)(label:Nat)(value:ByteArray):Nat :=
 match cs.find? λ c=>decide (c.key=key) with
 | none=>if kind=1 then(if L<=cs.length then 15 else 0) else 14
 | some c=>if kind=1 then 13 else
   let s:=if label=0 then c.s0 else c.s1
   if kind=4 then(if P<=s.length then 15 else 0) else if kind=5 then(if (s.any λ x=>decide (x=value))=true then 0 else 16) else 0
theorem Zl5{w:World}{pe pf:Nat}{e:Int}{f:Bool}(he:Blk w pe 28 #[.int .i64 e])(hf:Blk w pf 4 #[.bool f])(u:FrameMode):
  CallsD prog 107 #[.pointer (some ⟨pe,0,none⟩),.pointer (some ⟨pf,0,none⟩)] u w λ r u' w'=>u'=u/\(r = .returned (.tuple #[])/\w'=if e=0/\f=true then w.setCell ⟨pe,0,none⟩ (.int .i64 15) else w):=by
 have c0:=he.cell 0;have c1:=hf.cell 0;have f0:=he.frozen 0;have fc:=he.lt;have wK:=hf.lt;simp only[ZD,ZE] at c0 c1;clear he hf;by_cases h0:e=0
 ·subst h0;rcases f with _ | _
  rotate_left
  rotate_left
  all_goals
   go_enter_d func107,ntmps107
   go_wp2_with fail;go_end0
   exact⟨rfl,ZM⟩
 ·have hz:(e==0)=false:=by simpa using h0
  go_enter_d func107,ntmps107
  go_wp2_with fail;go_end0
  exact⟨rfl,ZM⟩
theorem ZcU{w W:World}{x pe pf:Nat}{e:Int}{f:Bool}{tmps:Array Value}(S4:tmps.getD 6 undef = .pointer (some ⟨pe,0,none⟩))(hR:Blk W pe 28 #[.int .i64 e])(hF:Blk W pf 4 #[.bool f])(hB:Below w.heap.size w W)(rJ:w.heap.size<=pe)(hx:(x:Int)=if e=0/\f=true then 15 else e):
  bodyPostD prog f62 (Zv (.int .i64 (x:Int)) w) Exit.ret { tmps:=tmps,defers:=[{ target:=Target.fn (Fn.func 107) #[.pointer (some ⟨pe,0,none⟩),.pointer (some ⟨pf,0,none⟩)],args:=#[] }] } W:=by
 refine leaves_cons (f:=107) (args:=#[.pointer (some ⟨pe,0,none⟩),.pointer (some ⟨pf,0,none⟩)]) ZM (by simp[go_sem]) ?_;refine(Zl5 hR hF .returning).mono ?_;rintro e' u' ze ⟨rfl,rfl,rfl⟩;have dx:Blk (if e=0/\f=true then W.setCell ⟨pe,0,none⟩ (.int .i64 15) else W) pe 28 #[.int .i64 (if e=0/\f=true then 15 else e)]:=by
  split
  ·exact hR.ai 0 _
  ·exact hR
 have iN:Below w.heap.size w (if e=0/\f=true then W.setCell ⟨pe,0,none⟩ (.int .i64 15) else W):=by
  split
  ·exact hB.setCell rJ _
  ·exact hB
 rw[←hx] at dx;exact⟨_,Zac rfl S4 (Zd4 dx underlying28),rfl,iN⟩
theorem ZoM{w:World}(c:Cfg){a:Option Addr}{n cap:Nat}{cs:List Con}(h:ConSl w a n cap cs)(hn:n<=1000000)(dL:∀ c∈cs,c.s0.length<=1000000/\c.s1.length<=1000000)(kind:Nat)(key:ByteArray)(label:Nat)(value:ByteArray)(he:EditOk kind key label value):
  Calls prog 62 #[ZdX c,.slice a n cap,ZeZ kind key label value] w (Zv (.int .i64 (Zco c.l c.p cs kind key label value)) w):=by
 have SP:∀ (fn:Fn) (first cap:Array Value) (w:World),(Instr.makeFunc fn first cap).run prog w = .ok (.func fn first cap) w:=λ _ _ _ _=>rfl
 have cD:=Zbu w (.cells (Zal c) 23) (.cells #[.int .i64 kind,.string key,.int .i64 label,.string value] 33);have KR:=(ZBn w 23 (Zal c)).alloc (.cells #[.int .i64 kind,.string key,.int .i64 label,.string value] 33);have vQ:=Z6 w (.cells (Zal c) 23) 33 #[.int .i64 kind,.string key,.int .i64 label,.string value];have jk:((w.alloc (.cells (Zal c) 23)).alloc (.cells #[.int .i64 kind,.string key,.int .i64 label,.string value] 33)).heap.size=w.heap.size+1+1:=ZM;generalize dK:(w.alloc (.cells (Zal c) 23)).alloc (.cells #[.int .i64 kind,.string key,.int .i64 label,.string value] 33)=w2 at cD KR vQ jk;have bZ:=cD.alloc (by rw[jk];omega) (.cells #[.int .i64 0] 28);have iT:=ZBn w2 28 #[.int .i64 0];rw[jk] at iT;obtain⟨dj,ul,qc,ep,HS,eJ,qS,uv⟩:=ZH8 bZ (KR.alloc (.cells #[.int .i64 0] 28)) (vQ.alloc (.cells #[.int .i64 0] 28)) iT h dK he dL;clear cD KR vQ jk bZ iT h dK he dL;go_enter_defers func62,ntmps62
 go_wp2_with fail;have dK:=eJ.out;subst dK;refine(ZmT kind key label value _ qS.out).mono ?_;rintro _ w3 ⟨rfl,bZ⟩;have hC:=ul.out.ob bZ;have hE:=qc.out.ob bZ;have hR:=ep.out.ob bZ;have hB:=dj.out.trans (bZ.mono dj.out.size);obtain⟨e0,e1,e2,e3⟩:=hE.four;obtain⟨c0,c1,c2,c3,c4,c5⟩:=hC.aS;have r0:=hR.cell 0;have rf:=hR.frozen 0;simp only[ZD,ZE] at r0;have Pe:=hC.lt;have Pf:=hE.lt;have Ph:=hR.lt;obtain⟨HC,HE,HR,HB⟩:=ZH4 hC hE hR hB;clear hC hE hR hB bZ;go_wp2_with fail;have rJ:(w.heap.size+1+1)≠w.heap.size:=ZO;have FC:(w.heap.size+1)≠(w.heap.size+1+1):=ZO;have Ef:=(HC.out.far (p:=⟨w.heap.size+1+1,0,none⟩) (Ne.symm rJ) (.int .i64 0)).alloc (.cells #[.bool false] 4);have ol:=(HE.out.far (p:=⟨w.heap.size+1+1,0,none⟩) FC (.int .i64 0)).alloc (.cells #[.bool false] 4);have OE:=(HR.out.ai 0 (.int .i64 0)).alloc (.cells #[.bool false] 4);have fG:Blk ((w3.setCell ⟨w.heap.size+1+1,0,none⟩ (.int .i64 0)).alloc (.cells #[.bool false] 4)) w3.heap.size 4 #[.bool false]:=by
  have:=ZBn (w3.setCell ⟨w.heap.size+1+1,0,none⟩ (.int .i64 0)) 4 #[.bool false];have hs:(w3.setCell ⟨w.heap.size+1+1,0,none⟩ (.int .i64 0)).heap.size=w3.heap.size:=by simp[World.setCell]
  rw[hs] at this;exact this
 have i3:Below w.heap.size w ((w3.setCell ⟨w.heap.size+1+1,0,none⟩ (.int .i64 0)).alloc (.cells #[.bool false] 4)):=(HB.out.setCell (p:=⟨w.heap.size+1+1,0,none⟩) (by show w.heap.size<=w.heap.size+1+1;omega) _).alloc (by simp only[World.setCell,Array.size_modify];first | exact HB.out.size | (have:=HB.out.size;simp;omega)) _;obtain⟨pf,yK⟩:∃ pf,pf=w3.heap.size:=⟨_,rfl⟩;rw[←yK] at fG ⊢;generalize ((w3.setCell ⟨w.heap.size+1+1,0,none⟩ (.int .i64 0)).alloc (.cells #[.bool false] 4))=w4 at *;have FD:pf≠w.heap.size:=by have:=HB.out.size;omega
 have FE:pf≠w.heap.size+1:=ZO;have FF:pf≠w.heap.size+1+1:=ZO;have kS:Hid (w.heap.size<=pf):=ZH (by have:=HB.out.size;omega);obtain⟨j7,q7,gw⟩:=ZH3 FD FE FF;have jK:=Zo3 (HS.out.below i3) hn (w.heap.size+1) key (ol.cell 1) ol.lt;obtain⟨Hn,Nc,sx,fU,lY,fK⟩:=ZH6 jK Ef ol OE fG i3;clear jK Ef ol OE fG i3 HC HE HR HB e0 e1 e2 e3 c0 c1 c2 c3 c4 c5 r0 rf Pe Pf Ph yK FD FE FF rJ FC;refine Hn.out.mono ?_;rintro _ w5 ⟨ix,rfl,jK,dw⟩;have hC:=Nc.out.ob dw;have hE:=sx.out.ob dw;have hR:=fU.out.ob dw;have hF:=lY.out.ob dw;have hB:=fK.out.trans (dw.mono fK.out.size);obtain⟨e0,e1,e2,e3⟩:=hE.four;obtain⟨c0,c1,c2,c3,c4,c5⟩:=hC.aS;have r0:=hR.cell 0;have rf:=hR.frozen 0;have f0:=hF.cell 0;have ff:=hF.frozen 0;simp only[ZD,ZE] at r0 f0;have Pe:=hC.lt;have Pf:=hE.lt;have Ph:=hR.lt;have hlF:=hF.lt;have PA:∀ v,(w5.setCell ⟨pf,0,none⟩ v).cell? ⟨w.heap.size+1+1,0,none⟩=some (.int .i64 0):=λ v=>(World.cell?_setCell_other _ ⟨pf,0,none⟩ ⟨w.heap.size+1+1,0,none⟩ _ (by intro h;injection h with h;exact gw.out (by first | exact h | exact h.symm))).trans r0
 have IM:∀ v,(w5.setCell ⟨pf,0,none⟩ v).frozen? ⟨w.heap.size+1+1,0,none⟩=false:=λ v=>(hR.far (p:=⟨pf,0,none⟩) (Ne.symm gw.out) v).frozen 0
 obtain⟨HC,HE,HR,HF,HB,va⟩:=ZH6 hC hE hR hF hB (HS.out.below hB);clear hC hE hR hF hB dw Nc sx fU lY fK;rcases jK with ⟨k,rfl,ct,sa,ev,rx⟩|⟨rfl,qD⟩
 ·have oB:cs.find? (λ c=>decide (c.key=key))=some ct:=by
   rw[List.find?_eq_some_iff_getElem];obtain⟨hk,IE⟩:=ZZ.1 sa;exact⟨by simpa using ev,k,hk,IE,λ j hj=>by simpa using rx j _ hj (ZX ZO)⟩
  have qe:=ZH oB;clear oB ev rx;have il:k<n:=by rw[←HS.out.2.1];exact(ZZ.1 sa).1
  have my:decide ((0:Int)<=(k:Int))=true:=ZM;have ce:decide ((k:Int)<0)=false:=ZM;have cA:(0:Int)<=(k:Int):=ZO;have hkN:(k:Int)<(n:Int):=ZO;by_cases h1:kind=1
  ·have b1:((kind:Int)==1)=true:=by simp[h1]
   have H1:=ZH h1;clear h1 sa;go_wp2_with fail;refine ZcU rfl ((HR.out.far (p:=⟨pf,0,none⟩) (Ne.symm gw.out) _).ai 0 (.int .i64 13)) ((HF.out.ai 0 (.bool (decide (c.l<=n)))).far (p:=⟨w.heap.size+1+1,0,none⟩) gw.out _) ((HB.out.setCell (p:=⟨pf,0,none⟩) kS.out _).setCell (p:=⟨w.heap.size+1+1,0,none⟩) (by show w.heap.size<=w.heap.size+1+1;omega) _) ZO ?_;simp[Zco,qe.out,H1.out]
  ·have b1:((kind:Int)==1)=false:=ZP;by_cases KN:kind=4∨kind=5
   ·obtain⟨S,hS⟩:∃ S,S=if label=0 then ct.s0 else ct.s1:=⟨_,rfl⟩
    have gF:label<=1:=(qS.out.long ZO).1;have fp:∃ b off av ns KC,a=some ⟨b,off,none⟩/\b<w5.heap.size/\w5.cell? ⟨b,off+k*7+5+label,none⟩=some (.slice av ns KC)/\StrSl w5 av ns KC S:=by
     rcases va.out.2.2 with h0 | ⟨b,off,h1,h2,h3⟩
     ·omega
     ·obtain⟨a0,n0,c0,a1,n1,c1,bU,fx,jF⟩:=h3 k ct sa;have mM:label=0∨label=1:=ZO;rcases mM with h | h
      ·refine⟨b,off,a0,n0,c0,h1,h2,?_,by rw[hS,if_pos h];exact fx⟩;rw[h];exact bU 5 ZO
      ·refine⟨b,off,a1,n1,c1,h1,h2,?_,by rw[hS,if_neg ZO];exact jF⟩;rw[h];exact bU 6 ZO
    obtain⟨b,off,av,ns,KC,rfl,cQ,LR,uM⟩:=fp;have lJ:(0:Int)<=(label:Int):=ZO;have mM:(label:Int)<2:=ZO;obtain⟨NG,Ia,Kc,HLAB,JJ⟩:=ZH5 (uM.2.1) uM hS gF (ZY sa);clear uM hS sa gF;by_cases h4:kind=4
    ·have b4:((kind:Int)==4)=true:=by simp[h4]
     have H4:=ZH h4;clear h1 KN h4;go_wp2_with fail;refine ZSi [(0,3),(1,3),(2,3),(3,0),(4,3),(5,3),(6,3),(7,0),(8,3),(9,3),(10,0),(11,3),(12,2)] λ bR=>?_
     repeat((first | refine ZSa ?_ | refine ZSb ?_ | refine ZSc ?_);simp only[Act.put,ZA,ZB,ZC])
     refine ZSe λ K hK=>?_
     go_simp;refine hK.out _ _ ?_;clear hK K;refine ZSf ?_;have PA:=PA (.bool (decide (c.p<=ns)));have IM:=IM (.bool (decide (c.p<=ns)));go_wp2_with fail;refine ZcU rfl ((HR.out.drew.far (p:=⟨pf,0,none⟩) (Ne.symm gw.out) _).ai 0 (.int .i64 0)) ((HF.out.drew.ai 0 (.bool (decide (c.p<=ns)))).far (p:=⟨w.heap.size+1+1,0,none⟩) gw.out _) ((HB.out.drew.setCell (p:=⟨pf,0,none⟩) kS.out _).setCell (p:=⟨w.heap.size+1+1,0,none⟩) (by show w.heap.size<=w.heap.size+1+1;omega) _) ZO ?_;have eD:=NG.out;simp only[Zco,qe.out,H4.out,←Kc.out,eD];by_cases hq:c.p<=ns <;> simp[hq]
    ·have b4:((kind:Int)==4)=false:=ZP;have h5:kind=5:=ZO;have b5:((kind:Int)==5)=true:=by simp[h5]
     have H5:=ZH h5;clear h1 KN h4 h5;have SR:ns<=1000000:=by
      have h1:=uv.out ct JJ.out;rw[←NG.out,Kc.out];split
      ·exact h1.1
      ·exact h1.2
     go_wp2_with fail;refine ZSi [(0,3),(1,3),(2,3),(3,0),(4,3),(5,3),(6,3),(7,0),(8,3),(9,0),(10,1),(11,3)] λ bR=>?_
     repeat((first | refine ZSa ?_ | refine ZSb ?_ | refine ZSc ?_);simp only[Act.put,ZA,ZB,ZC])
     refine ZSd λ K hK=>?_
     go_simp;refine(Zk3 (Ia.out.below (ZW _ _).drew) SR value).mono ?_;rintro _ w6 ⟨tt,rfl,IN,eu⟩;refine hK.out (λ w'=>Kept w5.heap.size w5 w') _ _ (λ _ h=>h) (bR.step eu) (λ bT=>?_);clear hK K bR;repeat((first | refine ZSa ?_ | refine ZSb ?_ | refine ZSc ?_);simp only[Act.put,ZA,ZB,ZC])
     refine ZSf ?_;have re:=ZH IN;have Eo:=HR.out.ob bT.below;have r6:w6.cell? ⟨w.heap.size+1+1,0,none⟩=some (.int .i64 0):=Eo.cell 0;have rf6:=Eo.frozen 0;have hlR6:=Eo.lt;obtain⟨mG,qd,i7⟩:=ZH3 Eo (HF.out.ob bT.below) (HB.out.trans (bT.below.mono HB.out.size));clear Eo bT eu IN;have tw:((Zco c.l c.p cs kind key label value:Nat):Int)=if tt=true then 0 else 16:=by
      have gn:(S.any λ x=>decide (x=value))=tt:=by
       have h1:=re.out;have h2:(S.any λ x=>decide (x=value))=true↔value∈S:=ZM;rcases tt with _ | _
       ·cases hx:S.any λ x=>decide (x=value) with
        | false=>rfl
        | true=>exact absurd (h1.2 (h2.1 hx)) ZM
       ·exact h2.2 (h1.1 rfl)
      simp only[Zco,qe.out,H5.out,←Kc.out];rw[gn];rcases tt with _ | _ <;> simp
     have uZ:=ZH tw;clear tw;rcases tt with _ | _
     ·go_wp2_with fail;refine ZcU rfl (mG.out.ai 0 (.int .i64 16)) (qd.out.far (p:=⟨w.heap.size+1+1,0,none⟩) gw.out _) (i7.out.setCell (p:=⟨w.heap.size+1+1,0,none⟩) (by show w.heap.size<=w.heap.size+1+1;omega) _) ZO ?_;rw[uZ.out];simp
     ·go_wp2_with fail;refine ZcU rfl (mG.out.ai 0 (.int .i64 0)) (qd.out.far (p:=⟨w.heap.size+1+1,0,none⟩) gw.out _) (i7.out.setCell (p:=⟨w.heap.size+1+1,0,none⟩) (by show w.heap.size<=w.heap.size+1+1;omega) _) ZO ?_;rw[uZ.out];simp
   ·have b4:((kind:Int)==4)=false:=ZP;have b5:((kind:Int)==5)=false:=ZP;have tw:((Zco c.l c.p cs kind key label value:Nat):Int)=0:=by
     simp only[Zco,qe.out];rw[if_neg h1,if_neg ZO,if_neg ZO];rfl
    have uZ:=ZH tw;clear h1 KN tw;go_wp2_with fail;refine ZcU rfl (HR.out.ai 0 (.int .i64 0)) (HF.out.far (p:=⟨w.heap.size+1+1,0,none⟩) gw.out _) (HB.out.setCell (p:=⟨w.heap.size+1+1,0,none⟩) (by show w.heap.size<=w.heap.size+1+1;omega) _) ZO ?_;rw[uZ.out];simp
 ·have oB:cs.find? (λ c=>decide (c.key=key))=none:=by
   rw[List.find?_eq_none];intro x hx;simpa using qD x hx
  have qe:=ZH oB;clear oB qD;by_cases h1:kind=1
  ·have b1:((kind:Int)==1)=true:=by simp[h1]
   have H1:=ZH h1;clear h1;go_wp2_with fail;refine ZcU rfl ((HR.out.far (p:=⟨pf,0,none⟩) (Ne.symm gw.out) _).ai 0 (.int .i64 0)) ((HF.out.ai 0 (.bool (decide (c.l<=n)))).far (p:=⟨w.heap.size+1+1,0,none⟩) gw.out _) ((HB.out.setCell (p:=⟨pf,0,none⟩) kS.out _).setCell (p:=⟨w.heap.size+1+1,0,none⟩) (by show w.heap.size<=w.heap.size+1+1;omega) _) ZO ?_;have eX:cs.length=n:=HS.out.2.1;simp only[Zco,qe.out,H1.out,if_true,eX];by_cases hq:c.l<=n <;> simp[hq]
  ·have b1:((kind:Int)==1)=false:=ZP;have H1:=ZH h1;clear h1;go_wp2_with fail;refine ZcU rfl (HR.out.ai 0 (.int .i64 14)) (HF.out.far (p:=⟨w.heap.size+1+1,0,none⟩) gw.out _) (HB.out.setCell (p:=⟨w.heap.size+1+1,0,none⟩) (by show w.heap.size<=w.heap.size+1+1;omega) _) ZO ?_;simp[Zco,qe.out,H1.out]
end
section
abbrev hubStArr(up:Bool)(dv:Value)(c:Cfg)(pv:Value):Array Value:=#[.bool up,dv,.int .i64 c.n,.int .i64 c.w,.int .i64 c.q,.int .i64 c.h,.int .i64 c.l,.int .i64 c.p,pv]
structure HubAt(own:Own)(t:Nat)(w:World)(p:Nat)(c:Cfg)(up:Bool)(d:Dk)(sh:List Sh)(told:List Clk):Prop where
 mine:own p=t
 len:sh.length=c.n
 ex:∃ dp pp,Blk w p 124 (hubStArr up (.pointer (some ⟨dp,0,none⟩)) c (.pointer (some ⟨pp,0,none⟩)))/\DiskAt own (t+1) w dp d/\PostAt own (t+10) w pp c.w sh told
def HubT(t:Nat)(n:Nat):Prop:=t<=n/\n<t+50
section
variable {own own':Own}{t p:Nat}{w w':World}{c:Cfg}{up:Bool}{d:Dk}{sh:List Sh}{told:List Clk}{T:Nat->Prop}
theorem HubAt.upd(h:HubAt own t w p c up d sh told)(hu:Upd T own own' w w')(hT:∀ n,HubT t n->¬ T n)(hN:sh.length<=5):HubAt own' t w' p c up d sh told:=by
 obtain⟨h1,h2,dp,pp,h3,h4,h5⟩:=h;refine⟨by rw[hu.old p h3.lt];exact h1,h2,dp,pp,h3.upd hu (by rw[h1];exact hT t ⟨ZL _,ZO⟩),h4.upd hu (hT _ ⟨ZO,ZO⟩),h5.upd hu (λ i hi=>hT _ ⟨ZO,ZO⟩)⟩
theorem Blk.aj{g:Nat}{ty:TypeId}{v0 v1 v2 v3 v4 v5 v6 v7 v8:Value}(h:Blk w g ty #[v0,v1,v2,v3,v4,v5,v6,v7,v8]):w.cell? ⟨g,0,none⟩=some v0/\w.cell? ⟨g,1,none⟩=some v1/\w.cell? ⟨g,2,none⟩=some v2/\w.cell? ⟨g,3,none⟩=some v3/\w.cell? ⟨g,4,none⟩=some v4/\w.cell? ⟨g,5,none⟩=some v5/\w.cell? ⟨g,6,none⟩=some v6/\w.cell? ⟨g,7,none⟩=some v7/\w.cell? ⟨g,8,none⟩=some v8 :=
 ⟨h.cell 0,h.cell 1,h.cell 2,h.cell 3,h.cell 4,h.cell 5,h.cell 6,h.cell 7,h.cell 8⟩
end
def Zcl(up:Bool)(sh:List Sh)(told:List Clk):Value:=if up=true then Zc4 true (Zew sh) (lenOf sh) (Za9 told) else Zc4 false ZCz ZCz (List.replicate 5 ZCz)
theorem hub_site{own:Own}{t p:Nat}{w:World}{c:Cfg}{up:Bool}{d:Dk}{sh:List Sh}{told:List Clk}(h:HubAt own t w p c up d sh told)(hf:Fresh own w)(hN:sh.length<=5)(hk:∀ s∈sh,s.kept.length<=1000000/\s.base<=1000000):
  Calls prog 52 #[.pointer (some ⟨p,0,none⟩)] w (Zv (Zcl up sh told) w):=by
 obtain⟨h1,h2,dp,pp,h3,h4,h5⟩:=h;have HZ:=ZH (ZBn w 56 (Zt false ZCz ZCz (List.replicate 5 ZCz)));have cA:=(ZKr w).alloc (.cells (Zt false ZCz ZCz (List.replicate 5 ZCz)) 56);have pD:=h3.alloc (.cells (Zt false ZCz ZCz (List.replicate 5 ZCz)) 56);obtain⟨c0,c1,c2,c3,c4,c5,c6,c7,c8⟩:=pD.aj;have ce:=h3.lt;have A3:=pD.lt;have cX:Upd (λ _=>False) own own w (w.alloc (.cells (Zt false ZCz ZCz (List.replicate 5 ZCz)) 56)):=ZUb cA.below hf;have wR:=h5.upd cX (λ _ _ h=>h);have ij:=ZH (ZeC wR cX.fresh hN hk);have rp:(Za9 told).length=5:=ZcT (by rw[h5.len];exact hN);obtain⟨df,HA⟩:=ZH2 cA rp;clear cA pD h3 h4 h5 cX wR rp;obtain⟨W0,gJ⟩:∃ W0,W0=w.alloc (.cells (Zt false ZCz ZCz (List.replicate 5 ZCz)) 56):=⟨_,rfl⟩;rw[←gJ] at HZ df ij c0 c1 c2 c3 c4 c5 c6 c7 c8 A3;have l5:=ZH gJ;clear gJ;have dR:∀ (x:Bool) (w:World),(Op.unary .not (.bool x)).run prog w = .ok (.bool (!x)) w:=λ _ _=>rfl
 rcases up with _ | _
 ·go_enter func52,ntmps52
  go_wp2_with (first
   |(refine Zy rfl 56 rfl (Zt false ZCz ZCz (List.replicate 5 ZCz)) ZK ?_
     rw[←l5.out])
   |(refine Zan rfl 56 _ rfl (Zt false ZCz ZCz (List.replicate 5 ZCz)) ?hf ?_
     case hf=>kernel_rfl)
   |(refine wpList_store_row rfl 56 (.tmp 2) (.tmp 9) rfl w.heap.size (Zt false ZCz ZCz (List.replicate 5 ZCz)) rfl rfl 56 (Zt false ZCz ZCz (List.replicate 5 ZCz)) HZ.out (ZbR _ _ _ (acks:=List.replicate 5 ZCz) rfl) (by simp only[Zcb]) (Zdq _ _ _ _) ?_))
  refine bodyPost_ret (Zac rfl rfl (run_loadVar_row _ _ _ _ _ _ _ (HZ.out.row _) underlying56 rfl (ZbR _ _ _ (acks:=List.replicate 5 ZCz) rfl))) rfl ?_;exact⟨by simp[Zcl,Zc4],(df.out.row (ZL _) _).below⟩
 ·go_enter func52,ntmps52
  go_wp2_with (first
   |(refine Zy rfl 56 rfl (Zt false ZCz ZCz (List.replicate 5 ZCz)) ZK ?_
     rw[←l5.out]))
  refine ij.out.mono ?_;rintro _ w1 ⟨rfl,bS⟩;have cG:=HZ.out.ob bS;have oI:=cG.lt;obtain⟨mn,cE⟩:=ZH2 cG (df.out.step bS);clear cG bS
  go_wp2_with (first
   |(refine wpList_store_row rfl 56 (.tmp 2) (.tmp 14) rfl w.heap.size (Zt true (Zew sh) (lenOf sh) (Za9 told)) rfl rfl 56 (Zt false ZCz ZCz (List.replicate 5 ZCz)) mn.out (ZbR _ _ _ HA.out) (by simp only[Zcb,HA.out,List.length_replicate]) (Zdq _ _ _ _) ?_))
  refine bodyPost_ret (Zac rfl rfl (run_loadVar_row _ _ _ _ _ _ _ (mn.out.row _) underlying56 rfl (ZbR _ _ _ HA.out))) rfl ?_;exact⟨by simp[Zcl,Zc4],(cE.out.row (ZL _) _).below⟩
end
theorem ZhM{sh:List Sh}{r:Nat}{c:Clk}:∀ {k:Nat} {e:Ev},e∈Zak sh r c k->∃ s∈sh,e∈s.kept
 | 0,e,h=>by simp[Zak] at h
 | k+1,e,h=>by
  rw[Zak,List.mem_append] at h;rcases h with h | h
  ·exact ZhM h
  ·split at h
   ·rename_i s hs;split at h
    ·simp at h
    ·exact⟨s,ZY hs,(List.mem_filter.1 h).1⟩
   ·simp at h
theorem Ze9{sh:List Sh}{r:Nat}{c:Clk}{m:Nat}(h:∀ s∈sh,s.kept.length<=m):∀ k,(Zak sh r c k).length<=k*m
 | 0=>by simp[Zak]
 | k+1=>by
  have ih:=Ze9 (r:=r) (c:=c) h k;have h2:(match sh[k]? with | some s=>if k=r then [] else ZaW (c.get k) s.kept | none=>[]).length<=m:=by
   split
   ·rename_i s hs;split
    ·simp
    ·exact ZT (List.length_filter_le _ _) (h s (ZY hs))
   ·simp
  rw[Zak,ZI,Nat.succ_mul];exact Nat.add_le_add ih h2
def Zbe(r:Nat)(l:List Ev):Frm:=⟨4,r,0,ZCz,l⟩
theorem ZbW(i:Nat):ZCz.get i=0:=by
 match i with
 | 0=>rfl
 | 1=>rfl
 | 2=>rfl
 | 3=>rfl
 | 4=>rfl
 | n+5=>exact Clk.aq _ ZO
theorem ZjW{r:Nat}{l:List Ev}(hr:r<5)(hl:l.length<=20)(he:∀ e∈l,e.Ok):(Zbe r l).Ok :=
 ⟨by simp[Zbe],by simp[Zbe],hr,by simp[Zbe],by simp[Zbe],λ i=>by simp[Zbe,ZbW],by simp[Zbe],he,hl,by simp[Zbe],by simp[Zbe]⟩
theorem ZoZ{own:Own}{t p:Nat}{w:World}{c:Cfg}{up:Bool}{d:Dk}{sh:List Sh}{told:List Clk}(h:HubAt own t w p c up d sh told)(hf:Fresh own w)(hN:sh.length<=5)(hk:∀ s∈sh,s.kept.length<=4/\∀ e∈s.kept,e.Ok)(f:Frm){a:Option Addr}{n cap:Nat}(hr:f.r<sh.length):
  Calls prog 94 #[.pointer (some ⟨p,0,none⟩),Z8 f (.slice a n cap)] w λ r w'=>∃ v,r = .returned (.tuple #[.int .i64 f.r,v,.int .i64 0])/\w'.ownsRow w.heap.size 5 1 v (Zk (Zbe f.r (Zak sh f.r f.clock sh.length))).length (cells (Zk (Zbe f.r (Zak sh f.r f.clock sh.length))))/\Below w.heap.size w w':=by
 obtain⟨h1,h2,dp,pp,h3,h4,h5⟩:=h;have cA:=(ZKr w).alloc (.cells (Za f (.slice a n cap)) 158);have hX:=ZBn w 158 (Za f (.slice a n cap));have pD:=h3.alloc (.cells (Za f (.slice a n cap)) 158);have cX:Upd (λ _=>False) own own w (w.alloc (.cells (Za f (.slice a n cap)) 158)):=ZUb cA.below hf;have wR:=h5.upd cX (λ _ _ h=>h)
 have eO:(Zbe f.r (Zak sh f.r f.clock sh.length)).Ok:=ZjW ZO (by have:=Ze9 (r:=f.r) (c:=f.clock) (m:=4) (λ s hs=>(hk s hs).1) sh.length;omega) (λ e he=>by
  obtain⟨s,hs,he⟩:=ZhM he
  exact(hk s hs).2 e he)
 have iy:=ZH h2;clear h2;obtain⟨HX,HB,HU,HP,df,gN,HK⟩:=ZH7 hX pD cX wR cA eO hk;clear h3 h4 h5 hX pD cX wR cA hf eO hk;go_enter func94,ntmps94;go_wp2_with fail;generalize w.alloc (.cells (Za f (.slice a n cap)) 158)=W at *;refine ZSi [(0,3),(1,0),(2,3),(3,0),(4,3),(5,0),(6,3),(7,0),(8,1),(9,3),(10,3),(11,3),(12,3),(13,3)] λ bR=>?_
 repeat((first | refine ZSa ?_ | refine ZSb ?_ | (refine Zf rfl (by rfl) (λ w' ci=>by(obtain⟨c0,c1,c2,c3,c4,c5,c6,c7,c8⟩:=(HB.out.ob ci.below).aj);(obtain⟨x0,x1,x2,x3,x4,x5,x6,x7,x8⟩:=(HX.out.ob ci.below).aj);go_simp;with_reducible rfl) ?_));simp only[Act.put,ZA,ZB,ZC])
 refine ZSd λ K hK=>?_
 go_simp;have dh:Upd (λ _=>False) own own W W.drew:=ZUb (ZW W.heap.size W).drew HU.out.fresh;refine(Zn4 (HP.out.upd dh (λ _ _ h=>h)) hN f.r hr f.clock (λ s hs=>by have:=(HK.out s hs).1;omega) dh.fresh).mono ?_;rintro _ w2 ⟨v2,rfl,dC,bW⟩;obtain⟨a2,RP,rfl,jk⟩:=EvSl.ab dC;have eP:=ZH jk;refine hK.out (λ w'=>Kept W.heap.size W w') _ _ (λ _ h=>h) (bR.step bW) (λ bT=>?_);clear hK K bR dC jk bW dh;repeat((first | refine ZSa ?_ | refine ZSb ?_ | refine ZSc ?_);simp only[Act.put,ZA,ZB,ZC])
 refine ZSf ?_;obtain⟨x0,x1,x2,x3,x4,x5,x6,x7,x8⟩:=(HX.out.ob bT.below).aj;have kJ:=(HX.out.ob bT.below).lt;obtain⟨jN,HH⟩:=ZH2 (Zg2 gN.out eP.out) bT;clear bT;go_wp2_with fail;refine jN.out.mono ?_;rintro _ w3 ⟨v3,rfl,ew,bZ⟩;obtain⟨ep,Q0⟩:=ZH2 ew (HH.out.step bZ);clear ew bZ;go_wp2_with fail;go_ret3
 exact⟨v3,rfl,Zi ep.out (ZT df.out.le HH.out.le),df.out.below.trans (Q0.out.below.mono df.out.le)⟩
theorem Zfq{w:World}{p d:Nat}(hc:w.cell? ⟨p,1,none⟩=some (.pointer (some ⟨d,0,none⟩))):
  Calls prog 86 #[.pointer (some ⟨p,0,none⟩)] w (Zv (.pointer (some ⟨d,0,none⟩)) w):=by
 go_enter func86,ntmps86;go_wp2
 go_ret;exact⟨rfl,ZW _ _⟩
theorem ZeO{w:World}{p d:Nat}(hc:w.cell? ⟨p,8,none⟩=some (.pointer (some ⟨d,0,none⟩))):
  Calls prog 79 #[.pointer (some ⟨p,0,none⟩)] w (Zv (.pointer (some ⟨d,0,none⟩)) w):=by
 go_enter func79,ntmps79;go_wp2
 go_ret;exact⟨rfl,ZW _ _⟩
section
structure NodeSt where
 up:Bool
 d:Dk
 log:List Ev
 sent:Nat
 book:List (ByteArray × List Ev)
 clk:Clk
 held:List Ev
 wait:List Ev
abbrev nodeArr(c:Cfg)(r:Nat)(up:Bool)(dv lv:Value)(sent:Nat)(bv iv ov:Value):Array Value :=
 #[.int .i64 c.n,.int .i64 c.w,.int .i64 c.q,.int .i64 c.h,.int .i64 c.l,.int .i64 c.p,.int .i64 r,.bool up,dv,lv,.int .i64 sent,bv,iv,ov]
abbrev ptrV(b:Nat):Value := .pointer (some ⟨b,0,none⟩)
def NodeT(t:Nat)(n:Nat):Prop:=t<=n/\n<t+6
structure NodeAt(own:Own)(t:Nat)(w:World)(p:Nat)(c:Cfg)(r:Nat)(s:NodeSt):Prop where
 mine:own p=t
 ex:∃ dp bp ip op lv,Blk w p 133 (nodeArr c r s.up (ptrV dp) lv s.sent (ptrV bp) (ptrV ip) (ptrV op))/\DiskAt own (t+1) w dp s.d/\RowAt own (t+2) w lv s.log/\LiveAt own (t+3) w bp s.book/\InboxAt own (t+4) w ip c.h s.clk s.held/\OutboxAt own (t+5) w op c.q c.w s.sent s.wait
section
variable {own own':Own}{t p r:Nat}{w w':World}{c:Cfg}{s:NodeSt}{T:Nat->Prop}
theorem NodeAt.upd(h:NodeAt own t w p c r s)(hu:Upd T own own' w w')(hT:∀ n,NodeT t n->¬ T n):NodeAt own' t w' p c r s:=by
 obtain⟨h1,dp,bp,ip,op,lv,h3,h4,h5,h6,h7,h8⟩:=h;exact⟨by rw[hu.old p h3.lt];exact h1,dp,bp,ip,op,lv,h3.upd hu (by rw[h1];exact hT t ⟨ZL _,ZO⟩),h4.upd hu (hT _ ⟨ZO,ZO⟩),h5.upd hu (hT _ ⟨ZO,ZO⟩),h6.upd hu (hT _ ⟨ZO,ZO⟩),h7.upd hu (hT _ ⟨ZO,ZO⟩),h8.upd hu (hT _ ⟨ZO,ZO⟩)⟩
theorem Blk.ag{g:Nat}{ty:TypeId}{v0 v1 v2 v3 v4 v5 v6 v7 v8 v9 xo BJ IU IV:Value}(h:Blk w g ty #[v0,v1,v2,v3,v4,v5,v6,v7,v8,v9,xo,BJ,IU,IV]):w.cell? ⟨g,6,none⟩=some v6/\w.cell? ⟨g,7,none⟩=some v7/\w.cell? ⟨g,8,none⟩=some v8/\w.cell? ⟨g,9,none⟩=some v9/\w.cell? ⟨g,10,none⟩=some xo/\w.cell? ⟨g,11,none⟩=some BJ/\w.cell? ⟨g,12,none⟩=some IU/\w.cell? ⟨g,13,none⟩=some IV :=
 ⟨h.cell 6,h.cell 7,h.cell 8,h.cell 9,h.cell 10,h.cell 11,h.cell 12,h.cell 13⟩
end
section
variable {own:Own}{t p r:Nat}{w:World}{c:Cfg}{s:NodeSt}
theorem ZiT(h:NodeAt own t w p c r s)(hf:Fresh own w):
  Calls prog 44 #[ptrV p] w λ e w'=>e = .returned (.tuple #[])/\NodeAt own t w' p c r { s with up:=false,d:=s.d.aF }/\Upd (NodeT t) own own w w':=by
 obtain⟨h1,dp,bp,ip,op,lv,h3,h4,h5,h6,h7,h8⟩:=h;obtain⟨c6,c7,c8,c9,cP,cR,dX,dY⟩:=h3.ag;have f0:=h3.frozen 7;have ce:=h3.lt;have co:Upd (· = t) own own w (w.setCell ⟨p,7,none⟩ (.bool false)):=(Upd.refl (· = t) own w hf).setCell (p:=⟨p,7,none⟩) (λ _=>h1) _;have bS:Blk (w.setCell ⟨p,7,none⟩ (.bool false)) p 133 (nodeArr c r false (ptrV dp) lv s.sent (ptrV bp) (ptrV ip) (ptrV op)):=h3.ai 7 _;obtain⟨dV,da,cL,qb,JB,cE,Jv,nZ⟩:=ZH8 (ZeO (w:=w.setCell ⟨p,7,none⟩ (.bool false)) (p:=p) (d:=dp) (bS.cell 8)) co bS (h4.upd co ZO) (h5.upd co ZO) (h6.upd co ZO) (h7.upd co ZO) (h8.upd co ZO);clear co bS h3 h4 h5 h6 h7 h8;go_enter func44,ntmps44;go_wp2_with fail;refine dV.out.mono ?_;rintro _ w2 ⟨rfl,bW⟩;have cm:=da.out.kept bW;have fe:Upd (λ _=>False) own own (w.setCell ⟨p,7,none⟩ (.bool false)) w2:=ZUb bW da.out.fresh;obtain⟨HC,us,cH,dc⟩:=ZH4 (Zf3 (qb.out.upd fe (λ h=>h)) cm.fresh) fe (cL.out.ob bW) cm;clear cm fe bW;go_wp2_with fail;refine HC.out.mono ?_;rintro _ w3 ⟨rfl,iO,cO⟩;go_wp2_with fail;go_end0
 have jj:=(us.out.mono (T':=λ m=>m=t+1) (λ n h=>h.elim)).trans cO;exact⟨rfl,⟨h1,dp,bp,ip,op,lv,cH.out.upd cO ZO,iO,JB.out.upd jj ZO,cE.out.upd jj ZO,Jv.out.upd jj ZO,nZ.out.upd jj ZO⟩,(dc.out.mono (λ n h=>⟨ZO,ZO⟩)).trans (cO.mono (λ n h=>⟨ZO,ZO⟩))⟩
theorem ZqB(h:NodeAt own t w p c r s)(hf:Fresh own w)(keep:Int):
  Calls prog 277 #[ptrV p,.int .i64 keep] w λ e w'=>e = .returned (.tuple #[])/\NodeAt own t w' p c r { s with d:=s.d.aQ keep }/\Upd (NodeT t) own own w w':=by
 obtain⟨h1,dp,bp,ip,op,lv,h3,h4,h5,h6,h7,h8⟩:=h;have ce:=h3.lt;obtain⟨dV,cL,qb,JB,cE,Jv,nZ,HF⟩:=ZH8 (ZeO (w:=w) (p:=p) (d:=dp) (h3.cell 8)) h3 h4 h5 h6 h7 h8 hf;clear h3 h4 h5 h6 h7 h8 hf;go_enter func277,ntmps277;go_wp2_with fail;refine dV.out.mono ?_;rintro _ w2 ⟨rfl,bW⟩;have fe:Upd (λ _=>False) own own w w2:=ZUb bW HF.out;obtain⟨HC,cH,us⟩:=ZH3 (Zk8 keep (qb.out.upd fe (λ h=>h)) fe.fresh) (cL.out.ob bW) fe;clear fe bW;go_wp2_with fail;refine HC.out.mono ?_;rintro _ w3 ⟨rfl,iO,cO⟩;go_wp2_with fail;go_end0
 have jj:=(us.out.mono (T':=λ m=>m=t+1) (λ n h=>h.elim)).trans cO;exact⟨rfl,⟨h1,dp,bp,ip,op,lv,cH.out.upd cO ZO,iO,JB.out.upd jj ZO,cE.out.upd jj ZO,Jv.out.upd jj ZO,nZ.out.upd jj ZO⟩,jj.mono (λ n h=>⟨ZO,ZO⟩)⟩
def ListPost(s:NodeSt)(w:World)(e:Ending)(w':World):Prop :=
 if s.up=true then ∃ v,e = .returned (.tuple #[v,.int .i64 0])/\ZfV (listN s.book) w (.returned v) w' else e = .returned (.tuple #[.slice none 0 0,.int .i64 18])/\Below w.heap.size w w'
theorem Zpi(h:NodeAt own t w p c r s)(hK:s.book.length<=1000)(hb:∀ x∈s.book,x.1.size<=1000000/\x.2.length<=100/\∀ e∈x.2,e.r<5):
  Calls prog 41 #[ptrV p] w (ListPost s w):=by
 obtain⟨h1,dp,bp,ip,op,lv,h3,h4,h5,h6,h7,h8⟩:=h;obtain⟨c6,c7,c8,c9,cP,cR,dX,dY⟩:=h3.ag;have ce:=h3.lt;have dR:∀ (x:Bool) (w:World),(Op.unary .not (.bool x)).run prog w = .ok (.bool (!x)) w:=λ _ _=>rfl
 have HL:=ZH (Zj8 h6 hK hb);clear h3 h4 h5 h6 h7 h8 hb;obtain⟨up,d,log,sent,book,clk,held,wait⟩:=s;rcases up with _ | _
 ·go_enter func41,ntmps41;go_wp2_with fail;go_ret2
  exact⟨rfl,ZW _ _⟩
 ·go_enter func41,ntmps41;go_wp2_with fail;refine HL.out.mono ?_;intro e w2 hP;have fR:=hP;obtain⟨v,ps,rfl,kp⟩:=hP;have HP:=ZH fR;clear fR kp;go_wp2_with fail;go_ret2
  exact⟨v,rfl,HP.out⟩
end
end
section
def clkOf(l:List Ev):Clk:=l.foldl (λ c e=>c.set e.r (c.get e.r+1)) ZCz
def waitN(r sent:Nat)(l:List Ev):List Ev:=l.filter λ e=>decide (e.r=r)&&decide (sent<e.n)
theorem Zf0(l:List Ev)(e:Ev):clkOf (l++[e])=(clkOf l).set e.r ((clkOf l).get e.r+1):=by simp[clkOf]
theorem Ziz(i:Nat):∀ (l:List Ev) (c:Clk),(∀ e∈l,e.r<5)->(l.foldl (λ c e=>c.set e.r (c.get e.r+1)) c).get i=c.get i+(l.filter λ e=>decide (e.r=i)).length
 | [],c,_=>ZM
 | e::l,c,h=>by
  rw[List.foldl_cons,Ziz i l _ (λ x hx=>h x (List.mem_cons_of_mem _ hx))];have hr:=h e ZM;by_cases hi:e.r=i
  ·subst hi;rw[Clk.aD _ hr];simp;omega
  ·rw[Clk.aB _ hi];simp[hi]
theorem ZjQ{l:List Ev}(h:∀ e∈l,e.r<5)(i:Nat):(clkOf l).get i=(l.filter λ e=>decide (e.r=i)).length:=by
 unfold clkOf;rw[Ziz i l _ h,ZbW];omega
theorem Zp7{l:List Ev}(h:∀ e∈l,e.r<5)(i:Nat):(clkOf l).get i<=l.length:=by
 rw[ZjQ h];exact List.length_filter_le _ _
theorem Blk.node6{w:World}{g:Nat}{ty:TypeId}{v0 v1 v2 v3 v4 v5 v6 v7 v8 v9 xo BJ IU IV:Value}(h:Blk w g ty #[v0,v1,v2,v3,v4,v5,v6,v7,v8,v9,xo,BJ,IU,IV]):w.cell? ⟨g,0,none⟩=some v0/\w.cell? ⟨g,1,none⟩=some v1/\w.cell? ⟨g,2,none⟩=some v2/\w.cell? ⟨g,3,none⟩=some v3/\w.cell? ⟨g,4,none⟩=some v4/\w.cell? ⟨g,5,none⟩=some v5 :=
 ⟨h.cell 0,h.cell 1,h.cell 2,h.cell 3,h.cell 4,h.cell 5⟩
structure BuildRun(own0 own:Own)(t:Nat)(w0:World)(p dp bp op:Nat)(lv iv:Value)(c:Cfg)(r:Nat)(up:Bool)(d:Dk)(log:List Ev)(sent:Nat)(sk:Nat)(q:Nat)(w:World):Prop where
 mine:own p=t
 blk:Blk w p 133 (nodeArr c r up (ptrV dp) lv sent (ptrV bp) iv (ptrV op))
 disk:DiskAt own (t+1) w dp d
 row:RowAt own (t+2) w lv log
 live:LiveAt own (t+3) w bp ((log.take q).foldl applyN [])
 out:OutboxAt own (t+5) w op c.q c.w sent (waitN r sent (log.take q))
 seen:Blk w sk 44 (clkArr (clkOf (log.take q)))
 sk0:own sk=0
 upd:Upd (NodeT t) own0 own w0 w
section
variable {own0 own own':Own}{t:Nat}{w0 w w':World}{p dp bp op:Nat}{lv iv:Value}{c:Cfg}{r:Nat}{up:Bool}{d:Dk}{log:List Ev}{sent sk q:Nat}{T:Nat->Prop}
theorem RowAt.none_(own:Own)(t:Nat)(w:World):RowAt own t w (.slice none 0 0) []:=⟨⟨rfl,.inl ⟨rfl,rfl⟩⟩,λ g h=>by cases h⟩
end
end
section
structure LogOk(q r sent:Nat)(log:List Ev):Prop where
 ok:∀ e∈log,e.Ok
 len:log.length<=1000
 row:From1 (sent+1) (waitN r sent log)
 room:(waitN r sent log).length<=q
 sent:sent<=1048576
theorem ZeV(r sent:Nat)(l:List Ev)(e:Ev):waitN r sent (l++[e])=waitN r sent l++if (decide (e.r=r)&&decide (sent<e.n))=true then [e] else []:=Zdz _ _ _
theorem ZhU{sent:Nat}{l:List Ev}(h:From1 (sent+1) l):lastOf sent l=sent+l.length:=by
 unfold lastOf
 cases hl:l.getLast? with
 | none=>rw[List.getLast?_eq_none_iff] at hl;subst hl;rfl
 | some x =>
  rw[List.getLast?_eq_getElem?] at hl;have hx:=h _ _ hl;have dz:l.length≠0:=λ h0=>by rw[List.eq_nil_of_length_eq_zero h0] at hl;simp at hl
  simp only;omega
theorem LogOk.next{cq r sent q:Nat}{log:List Ev}(h:LogOk cq r sent log){e:Ev}(he:log[q]? = some e)(hr:e.r=r)(hn:sent<e.n):(waitN r sent (log.take q)).length<cq/\lastOf sent (waitN r sent (log.take q))<2000000/\e.n=lastOf sent (waitN r sent (log.take q))+1:=by
 have dO:waitN r sent log=waitN r sent (log.take q)++(e::waitN r sent (log.drop (q+1))):=by
  have h1:log=log.take q++(e::log.drop (q+1)):=by
   have hq:=(ZZ.1 he).1;have h2:=(ZZ.1 he).2;rw[←h2,←List.drop_eq_getElem_cons hq,List.take_append_drop]
  conv=>lhs;rw[h1]
  unfold waitN;rw[List.filter_append,List.filter_cons,if_pos (by simp[hr,hn])]
 have B8:From1 (sent+1) (waitN r sent (log.take q)):=λ i x hx=>h.row i x (by rw[dO,List.getElem?_append_left (ZZ.1 hx).1];exact hx)
 have kG:=h.row (waitN r sent (log.take q)).length e (by rw[dO,List.getElem?_append_right (ZL _)];simp);have hlen:=h.room;rw[dO,ZI,List.length_cons] at hlen;have fe:=(h.ok e (ZY he)).n2;rw[ZhU B8];omega
section
variable {own:Own}{t p r:Nat}{w:World}{c:Cfg}{up:Bool}{d:Dk}{log:List Ev}{sent:Nat}
theorem ZnR(ht:0<t)(hf:Fresh own w)(hm:own p=t){dp:Nat}{lv bv iv ov:Value}(hb:Blk w p 133 (nodeArr c r up (ptrV dp) lv sent bv iv ov))(hd:DiskAt own (t+1) w dp d)(hl:RowAt own (t+2) w lv log)(eO:LogOk c.q r sent log):
  Calls prog 85 #[ptrV p] w λ e w'=>e = .returned (.tuple #[])/\∃ own',NodeAt own' t w' p c r ⟨up,d,log,sent,log.foldl applyN [],clkOf log,[],waitN r sent log⟩/\Upd (NodeT t) own own' w w':=by
 obtain⟨al,cl,rfl,eD⟩:=EvSl.ab hl.row;clear eD;have nN:=(ZW w.heap.size w).alloc (ZL _) (.cells #[.int .i64 0,.int .i64 0,.int .i64 0,.int .i64 0,.int .i64 0] 44);have xg:Upd (λ _=>False) own own w (w.alloc (.cells #[.int .i64 0,.int .i64 0,.int .i64 0,.int .i64 0,.int .i64 0] 44)):=ZUb nN hf;have HS:Hid (Blk (w.alloc (.cells #[.int .i64 0,.int .i64 0,.int .i64 0,.int .i64 0,.int .i64 0] 44)) w.heap.size 44 (clkArr ZCz)):=ZH (ZBn w 44 (clkArr ZCz));have hB:=hb.ob nN;obtain⟨HB,NR,HD,HL,HM,gN⟩:=ZH6 hB xg (hd.upd xg (λ h=>h)) (hl.upd xg (λ h=>h)) hm eO;have ei:Hid (own w.heap.size=0):=ZH (hf _ (ZL _));have ce:=hb.lt;have A6:=hB.lt;clear nN xg hB hf hm hb hd hl eO;go_enter func85,ntmps85;go_wp2_with fail;generalize w.alloc (.cells #[.int .i64 0,.int .i64 0,.int .i64 0,.int .i64 0,.int .i64 0] 44)=W at *;refine(Zqv W).mono ?_;rintro _ w1 ⟨rfl,rfl⟩;have bS:=(ZW W.heap.size W).alloc (ZL _) (.cells (liveArr 0 0 none 0) 213);have Oo:=ZBn W 213 (liveArr 0 0 none 0);have da:Hid (Upd (λ _=>False) own (own.at_ W.heap.size (t+3)) W (W.alloc (.cells (liveArr 0 0 none 0) 213))):=ZH ((ZUb bS NR.out.fresh).am (ZL _) ZM (t+3));have A9:LiveAt (own.at_ W.heap.size (t+3)) (t+3) (W.alloc (.cells (liveArr 0 0 none 0) 213)) W.heap.size []:=⟨by simp[Own.at_],0,none,0,[],Oo,rfl,⟨λ _ h=>(by cases h),λ i j p q h=>(by simp at h)⟩,.inl ⟨rfl,rfl,rfl⟩⟩;have cW:=HB.out.ob bS;have ja:=cW.cell 11;have KJ:=cW.frozen 11;have mL:=cW.lt;simp only[ZD,ZE,ZG] at ja;obtain⟨cL,xD,dV⟩:=ZH3 cW A9 (HS.out.ob bS);have Rq:Hid (p≠W.heap.size):=ZH ZO;obtain⟨cF,eZ⟩:∃ cF,cF=own.at_ W.heap.size (t+3):=⟨_,rfl⟩;rw[←eZ] at da xD;obtain⟨bp,eT⟩:∃ bp,bp=W.heap.size:=⟨_,rfl⟩;have QN:=ZH eT;clear bS Oo A9 cW eZ;go_wp2_with fail;have rG:cF p=t:=(da.out.old p A6).trans HM.out;have dd:Blk ((W.alloc (.cells (liveArr 0 0 none 0) 213)).setCell ⟨p,11,none⟩ (ptrV W.heap.size)) p 133 (nodeArr c r up (ptrV dp) (.slice al log.length cl) sent (ptrV bp) iv ov):=by rw[eT];exact cL.out.ai 11 _
 have jk:Upd (· = t) cF cF (W.alloc (.cells (liveArr 0 0 none 0) 213)) ((W.alloc (.cells (liveArr 0 0 none 0) 213)).setCell ⟨p,11,none⟩ (ptrV W.heap.size)):=(Upd.refl (· = t) cF _ da.out.fresh).setCell (p:=⟨p,11,none⟩) (λ _=>rG) _;have cm:Upd (NodeT t) own cF w ((W.alloc (.cells (liveArr 0 0 none 0) 213)).setCell ⟨p,11,none⟩ (ptrV W.heap.size)):=((NR.out.trans da.out).mono (λ n h=>h.elim)).trans (jk.mono (λ m hm=>⟨ZO,ZO⟩));have mq:Blk ((W.alloc (.cells (liveArr 0 0 none 0) 213)).setCell ⟨p,11,none⟩ (ptrV W.heap.size)) w.heap.size 44 (clkArr ZCz):=dV.out.far (p:=⟨p,11,none⟩) (by show w.heap.size≠p;omega) _;have zO:Hid (cF w.heap.size=0):=ZH ((da.out.old _ HS.out.lt).trans ei.out);obtain⟨cH,dc,eP,nZ,nG,xC,ve⟩:=ZH7 dd cm mq rG ((HD.out.upd da.out (λ h=>h)).upd jk ZO) ((HL.out.upd da.out (λ h=>h)).upd jk ZO) (xD.out.upd jk ZO);rw[←eT] at ve;rw[←eT] at cH dc eP nG xC ⊢;rw[World.setCell_alloc_past _ _ _ _ A6] at cH dc eP nG xC ve;generalize ((W.setCell ⟨p,11,none⟩ (ptrV bp)).alloc (.cells (liveArr 0 0 none 0) 213))=W2 at *;clear HB HS HD HL cL da xD dV rG dd jk cm mq eT QN ja KJ mL Rq;refine ZSi [(0,3),(1,3),(2,0),(3,3),(4,3),(5,0),(6,3),(7,0),(8,3),(9,3),(10,0),(11,3),(12,0),(13,3),(14,0),(15,1),(16,0),(17,3),(18,2)] λ bR=>?_
 repeat((first | refine ZSa ?_ | refine ZSb ?_ | (refine Zf rfl (by rfl) (λ w' ci=>by(obtain⟨c0,c1,c2,c3,c4,c5⟩:=(cH.out.ob ci.below).node6);(obtain⟨c6,c7,c8,c9,cP,cR,dX,dY⟩:=(cH.out.ob ci.below).ag);go_simp;with_reducible rfl) ?_));simp only[Act.put,ZA,ZB,ZC])
 refine ZSd λ K hK=>?_
 go_simp;refine(Zn1 c.q c.w sent W2.drew).mono ?_;rintro _ w3 ⟨op,rfl,kP,OP,bZ⟩;have cY:=bR.step bZ;obtain⟨Cx,xI⟩:=ZH2 OP kP;refine hK.out (λ w'=>Kept w3.heap.size w3 w'/\Kept W2.heap.size W2 w') _ _ (λ _ h=>h.2) ⟨ZKr _,cY⟩ (λ oq=>?_);clear hK K bR bZ cY OP kP;repeat((first | refine ZSa ?_ | refine ZSb ?_ | (refine Zf rfl (by rfl) (λ w' ci=>by(obtain⟨c0,c1,c2,c3,c4,c5⟩:=(cH.out.ob ci.2.below).node6);(obtain⟨c6,c7,c8,c9,cP,cR,dX,dY⟩:=(cH.out.ob ci.2.below).ag);go_simp;with_reducible rfl) ?_));simp only[Act.put,ZA,ZB,ZC])
 have fg:=cH.out.ob oq.2.below;have N3:=fg.cell 13;have R7:=fg.frozen 13;have wH:=fg.lt;simp only[ZD,ZE,ZG] at N3;have dj:=ZH fg;clear fg;refine ZSe λ K hK=>?_
 go_simp;refine hK.out _ _ ?_;clear hK K N3 R7;refine ZSf ?_;have jj:Upd (λ _=>False) cF cF W2 w3:=ZUb oq.2.below dc.out.fresh;have ir:Upd (λ _=>False) cF (cF.at_ op (t+5)) W2 w3:=jj.am (by have:=xI.out;simpa using this) Cx.out.lt (t+5);have pV:p≠op:=by have:=xI.out;have:=cH.out.lt;simp at *;omega
 have rH:(cF.at_ op (t+5)) p=t:=(ir.old p cH.out.lt).trans nZ.out;have kQ:Upd (· = t) (cF.at_ op (t+5)) (cF.at_ op (t+5)) w3 (w3.setCell ⟨p,13,none⟩ (ptrV op)):=(Upd.refl (· = t) _ w3 ir.fresh).setCell (p:=⟨p,13,none⟩) (λ _=>rH) _;have Fy:OutboxAt (cF.at_ op (t+5)) (t+5) w3 op c.q c.w sent []:=⟨by simp[Own.at_],_,Cx.out,RowAt.none_ _ _ _⟩;have em:BuildRun own (cF.at_ op (t+5)) t w p dp bp op (.slice al log.length cl) iv c r up d log sent w.heap.size 0 (w3.setCell ⟨p,13,none⟩ (ptrV op)) :=
  ⟨rH,dj.out.ai 13 _,(nG.out.upd ir (λ h=>h)).upd kQ ZO,(xC.out.upd ir (λ h=>h)).upd kQ ZO,(ve.out.upd ir (λ h=>h)).upd kQ ZO,Fy.upd kQ ZO,
   (eP.out.upd ir (λ h=>h)).upd kQ (by rw[ir.old _ eP.out.lt,zO.out];omega),(ir.old _ eP.out.lt).trans zO.out,(dc.out.trans (ir.mono (λ n h=>h.elim))).trans (kQ.mono (λ m hm=>⟨ZO,ZO⟩))⟩
 have iS:=ZH em;have l5:Hid (w.heap.size<(w3.setCell ⟨p,13,none⟩ (ptrV op)).heap.size):=ZH em.seen.lt;obtain⟨ey,dB⟩:∃ ey,ey=cF.at_ op (t+5):=⟨_,rfl⟩;rw[←dB] at iS;generalize (w3.setCell ⟨p,13,none⟩ (ptrV op))=W3 at *;obtain⟨c6,c7,c8,c9,cP,cR,dX,dY⟩:=iS.out.blk.ag;have wH:=iS.out.blk.lt;clear jj ir pV rH kQ Fy em dB cH dc eP zO nG xC ve dj Cx xI nZ oq;go_wp2_with fail;clear c6 c7 c8 c9 cP cR dX dY;go_loopw [32] (λ i wr=>∃ (q:Nat) (dD:Own),q<=log.length/\i = .int .i64 q/\Hid (BuildRun own dD t w p dp bp op (.slice al log.length cl) iv c r up d log sent w.heap.size q wr)) (λ i _=>log.length-(intOf i).toNat)
 case atStart=>exact⟨0,ey,Nat.zero_le _,rfl,iS⟩
 case round =>
  clear iS;obtain⟨q,dD,hq,rfl,HR⟩:=hrel;by_cases dy:q<log.length
  ·obtain⟨e,he⟩:∃ e,log[q]? = some e:=⟨_,ZX dy⟩;have dM:=gN.out.ok e (ZY he);have eD:=(EvSl.ab HR.out.row.row |> λ⟨_,_,e,h⟩=>by injection e with e1 e2 e3;subst e1 e3;exact h:EvSl wr al log.length cl log);obtain⟨bk,off,rfl,cQ,d0,d1,d2,d3,d4,d5,d6,d7,d8,d9,xV,sZ⟩:=eD.at_ he;have eC:=dM.r;have B6:=Zp7 (l:=log.take q) (λ x hx=>(gN.out.ok x (List.mem_of_mem_take hx)).r) e.r;rw[ZV] at B6;have hlen:=gN.out.len;have rO:=HR.out.seen.cell e.r;rw[ZdY _ eC] at rO;have IM:=HR.out.seen.frozen e.r;have Mt:=HR.out.seen.lt;obtain⟨gq,LC⟩:∃ gq,gq=(clkOf (log.take q)).get e.r:=⟨_,rfl⟩;rw[←LC] at rO B6;obtain⟨Jr,HE,qS⟩:=ZH3 LC he dM;have hx:=ZBn wr 89 (evArr e);obtain⟨x0,x1,x2,x3,x4,x5,x6,x7,x8,x9,eE,eG⟩:=hx.ae;clear LC he dM eD hx;go_wp2_with fail;have Gf:(.int .i64 ((gq:Int)+1):Value) = .int .i64 ((gq+1:Nat):Int):=by push_cast;rfl
   have fp:Upd (· = 0) dD dD wr (wr.setCell ⟨w.heap.size,e.r,none⟩ (.int .i64 ((gq:Int)+1))):=(Upd.refl (· = 0) dD wr HR.out.upd.fresh).setCell (p:=⟨w.heap.size,e.r,none⟩) (λ _=>HR.out.sk0) _;have dL:(wr.setCell ⟨w.heap.size,e.r,none⟩ (.int .i64 ((gq:Int)+1))).heap.size=wr.heap.size:=by simp[World.setCell]
   have fH:=(ZW (wr.setCell ⟨w.heap.size,e.r,none⟩ (.int .i64 ((gq:Int)+1))).heap.size _).alloc (ZL _) (.cells (evArr e) 89);have Cj:=fp.kept fH;have HU:=ZH ((HR.out.upd.setCell (p:=⟨w.heap.size,e.r,none⟩) (λ h=>absurd h (Nat.lt_irrefl _)) (.int .i64 ((gq:Int)+1))).kept fH);have tZ:=(HR.out.seen.ai e.r (.int .i64 ((gq:Int)+1))).ob fH;rw[Gf,ZeJ _ eC,Jr.out,←Zf0,←Zag HE.out,←Jr.out,←Gf] at tZ;have hX:=ZBn (wr.setCell ⟨w.heap.size,e.r,none⟩ (.int .i64 ((gq:Int)+1))) 89 (evArr e);rw[dL] at hX;have rX:Hid (dD wr.heap.size=0):=ZH (HR.out.upd.fresh _ (ZL _));have ka:BookInv (0+q) ((log.take q).foldl applyN []):=by
    have:=(BookInv.nil 0).fold (l:=log.take q) (λ x hx=>gN.out.ok x (List.mem_of_mem_take hx));rw[ZV,Nat.min_eq_left hq] at this;exact this
   obtain⟨HB,HD,sF,xD,HO,iA,HX,qN,JL⟩:=ZH9 (HR.out.blk.upd Cj (by rw[HR.out.mine];omega)) (HR.out.disk.upd Cj ZO) (HR.out.row.upd Cj ZO) (HR.out.live.upd Cj ZO) (HR.out.out.upd Cj ZO) tZ hX ka HR.out.mine;have qi:=ZH HR.out.sk0;generalize ((wr.setCell ⟨w.heap.size,e.r,none⟩ (.int .i64 ((gq:Int)+1))).alloc (.cells (evArr e) 89))=W at *;clear Gf fp dL fH Cj tZ hX ka HR rO IM Mt B6 Jr d0 d1 d2 d3 d4 d5 d6 d7 d8 d9 xV sZ x0 x1 x2 x3 x4 x5 x6 x7 x8 x9 eE eG;refine ZSi [(0,3),(1,0),(2,3),(3,0),(4,0),(5,2)] λ bR=>?_
   repeat((first | refine ZSa ?_ | refine ZSb ?_ | (refine Zf rfl (by rfl) (λ w' ci=>by(obtain⟨c6,c7,c8,c9,cP,cR,dX,dY⟩:=(HB.out.ob ci.below).ag);(obtain⟨x0,x1,x2,x3,x4,x5,x6,x7,x8,x9,eE,eG⟩:=(HX.out.ob ci.below).ae);go_simp;with_reducible rfl) ?_));simp only[Act.put,ZA,ZB,ZC])
   refine ZSe λ K hK=>?_
   go_simp;have dk:Upd (λ _=>False) dD dD W W.drew:=ZUb (ZW W.heap.size W).drew HU.out.fresh;refine(ZiQ (xD.out.upd dk (λ h=>h)) dk.fresh e qS.out (λ l hl=>by have:=qN.out.get hl;exact⟨ZO,this.2⟩)).mono ?_;rintro _ w6 ⟨rfl,dU,AZ,gT⟩;have lV:=(dk.mono (T':=(· = t+3)) (λ n h=>h.elim)).trans gT;obtain⟨CY,gY,i7,rS,zD,mF,vA,nK⟩:=ZH8 AZ (HU.out.trans (lV.mono (λ m hm=>⟨ZO,ZO⟩))) (HB.out.upd lV (by rw[JL.out];omega)) (HD.out.upd lV ZO) (sF.out.upd lV ZO) (HO.out.upd lV ZO) (iA.out.upd lV (by rw[qi.out];omega)) (HX.out.upd lV (by rw[rX.out];omega));have vg:Hid (dU p=t):=ZH ((lV.old p HB.out.lt).trans JL.out);have vB:Hid (dU w.heap.size=0):=ZH ((lV.old _ iA.out.lt).trans qi.out);have HX60:Hid (dU wr.heap.size=0):=ZH ((lV.old _ HX.out.lt).trans rX.out);refine hK.out _ _ ?_;clear hK K bR dk AZ gT lV xD HU HB HD sF HO iA HX JL qi rX;refine ZSf ?_;go_wp2_with fail;by_cases hr:e.r=r
   ·have hz:((e.r:Int)==(r:Int))=true:=by simp[hr]
    by_cases hn:sent<e.n
    ·have cK:decide ((sent:Int)<(e.n:Int))=true:=ZP;have pd:(sent:Int)<(e.n:Int):=ZO;obtain⟨Av,nM,OO⟩:=gN.out.next HE.out hr hn;have Ku:Hid ((decide (e.r=r)&&decide (sent<e.n))=true):=ZH (by simp[hr,hn]);have BL:=ZH OO;clear hr OO;refine ZSi [(0,3),(1,0),(2,3),(3,0),(4,3),(5,0),(6,3),(7,3),(8,3),(9,0),(10,3),(11,0),(12,3),(13,0),(14,3),(15,3)] λ bR=>?_
     repeat((first | refine ZSa ?_ | refine ZSb ?_ | (refine Zf rfl (by rfl) (λ w' ci=>by(obtain⟨c6,c7,c8,c9,cP,cR,dX,dY⟩:=(i7.out.ob ci.below).ag);(obtain⟨x0,x1,x2,x3,x4,x5,x6,x7,x8,x9,eE,eG⟩:=(nK.out.ob ci.below).ae);go_simp;with_reducible rfl) ?_));simp only[Act.put,ZA,ZB,ZC])
     refine ZSf ?_;have gU:=ZH bR;clear bR;go_wp2_with fail;generalize xi:w6.drew=w7 at *;clear xi;refine ZSi [(0,3),(1,0),(2,3),(3,0),(4,0),(5,2)] λ bR=>?_
     repeat((first | refine ZSa ?_ | refine ZSb ?_ | (refine Zf (v:=?_) rfl (by rfl) ?_ ?_;rotate_left 1;(intro w' ci;(obtain⟨c6,c7,c8,c9,cP,cR,dX,dY⟩:=((i7.out.ob gU.out.below).ob ci.below).ag);(obtain⟨x0,x1,x2,x3,x4,x5,x6,x7,x8,x9,eE,eG⟩:=((nK.out.ob gU.out.below).ob ci.below).ae);go_simp;with_reducible rfl)));simp only[Act.put,ZA,ZB,ZC])
     refine ZSe λ K hK=>?_
     go_simp;have dk:Upd (λ _=>False) dU dU w6 w7.drew:=ZUb (gU.out.below.trans ((ZW w7.heap.size w7).drew.mono gU.out.le)) gY.out.fresh;refine(ZiZ (mF.out.upd dk (λ h=>h)) dk.fresh e Av (ZT (List.length_filter_le _ _) (by rw[ZV];omega)) nM BL.out).mono ?_;rintro _ w8 ⟨rfl,p8,Pp,kz⟩;obtain⟨jo,Rn⟩:=ZH2 ((dk.mono (T':=(· = t+5)) (λ n h=>h.elim)).trans kz) Pp;refine hK.out _ _ ?_;clear hK K bR dk Pp kz;refine ZSf ?_;go_wp2
     go_roundw
     case rel =>
      refine⟨q+1,p8,ZO,ZN,ZH ⟨(jo.out.old p i7.out.lt).trans vg.out,i7.out.upd jo.out (by rw[vg.out];omega),rS.out.upd jo.out ZO,zD.out.upd jo.out ZO,?_,?_,vA.out.upd jo.out (by rw[vB.out];omega),(jo.out.old _ vA.out.lt).trans vB.out,gY.out.trans (jo.out.mono (λ m hm=>⟨ZO,ZO⟩))⟩⟩
      ·rw[Zag HE.out,List.foldl_append];exact CY.out.upd jo.out ZO
      ·rw[Zag HE.out,ZeV,if_pos Ku.out];exact Rn.out
     case measure=>simp[intOf];omega
    ·have cK:decide ((sent:Int)<(e.n:Int))=false:=ZP;have pd:¬ (sent:Int)<(e.n:Int):=ZO;have rU:Hid (¬ (decide (e.r=r)&&decide (sent<e.n))=true):=ZH (by simp[hn]);clear hr;refine ZSi [(0,3),(1,0),(2,3),(3,0),(4,3),(5,0),(6,3),(7,3),(8,3),(9,0),(10,3),(11,0),(12,3),(13,0),(14,3),(15,3)] λ bR=>?_
     repeat((first | refine ZSa ?_ | refine ZSb ?_ | (refine Zf rfl (by rfl) (λ w' ci=>by(obtain⟨c6,c7,c8,c9,cP,cR,dX,dY⟩:=(i7.out.ob ci.below).ag);(obtain⟨x0,x1,x2,x3,x4,x5,x6,x7,x8,x9,eE,eG⟩:=(nK.out.ob ci.below).ae);go_simp;with_reducible rfl) ?_));simp only[Act.put,ZA,ZB,ZC])
     refine ZSf ?_;have kU:=bR;clear bR;go_wp2
     go_roundw
     case rel =>
      have dk:Upd (λ _=>False) dU dU w6 w6.drew:=ZUb kU.below gY.out.fresh;refine⟨q+1,dU,ZO,ZN,ZH ⟨vg.out,i7.out.ob kU.below,rS.out.upd dk (λ h=>h),zD.out.upd dk (λ h=>h),?_,?_,vA.out.ob kU.below,vB.out,gY.out.kept kU.below⟩⟩
      ·rw[Zag HE.out,List.foldl_append];exact CY.out.upd dk (λ h=>h)
      ·rw[Zag HE.out,ZeV,if_neg rU.out,List.append_nil];exact mF.out.upd dk (λ h=>h)
     case measure=>simp[intOf];omega
   ·have hz:((e.r:Int)==(r:Int))=false:=ZP;have rU:Hid (¬ (decide (e.r=r)&&decide (sent<e.n))=true):=ZH (by simp[hr]);refine ZSi [(0,3),(1,0),(2,3),(3,0),(4,3),(5,0),(6,3),(7,3),(8,3),(9,0),(10,3),(11,0),(12,3),(13,0),(14,3),(15,3)] λ bR=>?_
    repeat((first | refine ZSa ?_ | refine ZSb ?_ | (refine Zf rfl (by rfl) (λ w' ci=>by(obtain⟨c6,c7,c8,c9,cP,cR,dX,dY⟩:=(i7.out.ob ci.below).ag);(obtain⟨x0,x1,x2,x3,x4,x5,x6,x7,x8,x9,eE,eG⟩:=(nK.out.ob ci.below).ae);go_simp;with_reducible rfl) ?_));simp only[Act.put,ZA,ZB,ZC])
    refine ZSf ?_;have kU:=bR;clear bR;go_wp2
    go_roundw
    case rel =>
     have dk:Upd (λ _=>False) dU dU w6 w6.drew:=ZUb kU.below gY.out.fresh;refine⟨q+1,dU,ZO,ZN,ZH ⟨vg.out,i7.out.ob kU.below,rS.out.upd dk (λ h=>h),zD.out.upd dk (λ h=>h),?_,?_,vA.out.ob kU.below,vB.out,gY.out.kept kU.below⟩⟩
     ·rw[Zag HE.out,List.foldl_append];exact CY.out.upd dk (λ h=>h)
     ·rw[Zag HE.out,ZeV,if_neg rU.out,List.append_nil];exact mF.out.upd dk (λ h=>h)
    case measure=>simp[intOf];omega
  ·obtain rfl:q=log.length:=ZO;go_wp2_with fail;refine ZSi [(0,3),(1,3),(2,0),(3,3),(4,3),(5,0),(6,0),(7,1),(8,0),(9,3),(10,2)] λ bR=>?_
   repeat((first | refine ZSa ?_ | refine ZSb ?_ | (refine Zf rfl (by rfl) (λ w' ci=>by(obtain⟨c0,c1,c2,c3,c4,c5⟩:=(HR.out.blk.ob ci.below).node6);(obtain⟨z0,z1,z2,z3,z4⟩:=(HR.out.seen.ob ci.below).aE);go_simp;with_reducible rfl) ?_));simp only[Act.put,ZA,ZB,ZC])
   refine ZSd λ K hK=>?_
   go_simp;refine(Zo1 c.h (clkOf log) wr.drew).mono ?_;rintro _ w5 ⟨ip,rfl,O8,Ix,dw⟩;have ef:=bR.step dw;obtain⟨Na,Q2⟩:=ZH2 Ix O8;refine hK.out (λ w'=>Kept w5.heap.size w5 w'/\Kept wr.heap.size wr w') _ _ (λ _ h=>h.2) ⟨ZKr _,ef⟩ (λ Ei=>?_);clear hK K bR dw ef Ix O8;repeat((first | refine ZSa ?_ | refine ZSb ?_ | (refine Zf rfl (by rfl) (λ w' ci=>by(obtain⟨c0,c1,c2,c3,c4,c5⟩:=(HR.out.blk.ob ci.2.below).node6);go_simp;with_reducible rfl) ?_));simp only[Act.put,ZA,ZB,ZC])
   have oX:=HR.out.blk.ob Ei.2.below;have N2:=oX.cell 12;have R6:=oX.frozen 12;have tJ:=oX.lt;simp only[ZD,ZE,ZG] at N2;have kC:=ZH oX;clear oX;refine ZSe λ K hK=>?_
   go_simp;refine hK.out _ _ ?_;clear hK K N2 R6;refine ZSf ?_;go_wp2_with fail;go_end0
   have tN:Upd (λ _=>False) dD dD wr w5:=ZUb Ei.2.below HR.out.upd.fresh;have kg:Upd (λ _=>False) dD (dD.at_ ip (t+4)) wr w5:=tN.am (by have:=Q2.out;simpa using this) Na.out.lt (t+4);have lJ:=HR.out.blk.lt;have Po:(dD.at_ ip (t+4)) p=t:=(kg.old p lJ).trans HR.out.mine;have ny:Upd (· = t) (dD.at_ ip (t+4)) (dD.at_ ip (t+4)) w5 (w5.setCell ⟨p,12,none⟩ (ptrV ip)):=(Upd.refl (· = t) _ w5 kg.fresh).setCell (p:=⟨p,12,none⟩) (λ _=>Po) _;have uG:InboxAt (dD.at_ ip (t+4)) (t+4) w5 ip c.h (clkOf log) []:=⟨by simp[Own.at_],_,Na.out,RowAt.none_ _ _ _⟩;have A9:=(HR.out.live.upd kg (λ h=>h)).upd ny ZO;have Ps:=(HR.out.out.upd kg (λ h=>h)).upd ny ZO;rw[List.take_length] at A9 Ps;exact⟨rfl,dD.at_ ip (t+4),⟨Po,dp,bp,ip,op,_,kC.out.ai 12 _,(HR.out.disk.upd kg (λ h=>h)).upd ny ZO,(HR.out.row.upd kg (λ h=>h)).upd ny ZO,A9,uG.upd ny ZO,Ps⟩,(HR.out.upd.trans (kg.mono (λ n h=>h.elim))).trans (ny.mono (λ m hm=>⟨ZO,ZO⟩))⟩
end
end
end Go.Proofs.YtjkfognelhiepaaGreat
