import Derived.Test.YtjkfognelhiepaaGreatC06
import Derived.Great.Walk
import Derived.Shelf.SlGeneric
import Derived.Shelf.Sort.Plain
import Derived.Shelf.Slices.CompactS
import Derived.Shelf.Slices.In.SortNone
import Derived.Shelf.SlIter.Nil
import Derived.Shelf.SortM.Plain
import Derived.Shelf.SortM.SortNone
import Derived.Ground.GgzProg
import Derived.Ground.SlgmProg
import Derived.Sort.OwnSorted
import Derived.Lib.OwnBridge
import Derived.Laws.EntriesVeiled
namespace Go.Proofs.YtjkfognelhiepaaGreat
open Go.RowKit _root_.Go.Proofs.Tryz
set_option maxRecDepth 100000
set_option maxHeartbeats 8000000
section
section
variable {P:Program}
theorem Zan{cu:Array Oper}{rest:List Oper}{o:Oper}{a:Act}{w:World}{Q:Exit->Act->World->Prop}(hg:o.guard=none)(t:TypeId)(parts:Array (Nat × Operand))(ho:o.op = .build t parts)(cells:Array Value)
  (hf:P.built t (parts.map λ(i,x)=>(i,a.eval x)).toList=some cells) (h:wpList P cu Q rest (a.put o.dst (.agg cells)) w):wpList P cu Q (o::rest) a w :=
 wpList_plain hg λ _ hK=>by
  refine wp_build t parts ho (by rw[hf];rfl) ?_;rw[hf];exact hK _ _ h
theorem Zy{cu:Array Oper}{rest:List Oper}{o:Oper}{a:Act}{w:World}{Q:Exit->Act->World->Prop}(hg:o.guard=none)(t:TypeId)(ho:o.op = .alloc t)(z:Array Value)
  (hz:(P.info? t).map (λ i=>i.zero)=some (some (.agg z))) (h:wpList P cu Q rest (a.put o.dst (.pointer (some ⟨w.heap.size,0,none⟩))) (w.alloc (.cells z t))):wpList P cu Q (o::rest) a w:=by
 cases hq:P.info? t with
 | none=>simp[hq] at hz
 | some i =>
  have sg:i.zero=some (.agg z):=by simpa [hq] using hz
  refine Go.Great.wpList_runTo hg o.dst rfl _ _ ?_ h;unfold execOp;simp[ho,Instr.alloc,zeroValue,typeInfo,hq,sg,newVar,Value.cells,newRow]
end
def Za9(told:List Clk):List Clk:=told++List.replicate (5-told.length) ZCz
abbrev Zt(up:Bool)(b l:Clk)(acks:List Clk):Array Value:=#[.bool up,.int .i64 b.c0,.int .i64 b.c1,.int .i64 b.c2,.int .i64 b.c3,.int .i64 b.c4,.int .i64 l.c0,.int .i64 l.c1,.int .i64 l.c2,.int .i64 l.c3,.int .i64 l.c4]++(clkCells acks).toArray
def Zc4(up:Bool)(b l:Clk)(acks:List Clk):Value := .agg (Zt up b l acks)
def Zew(sh:List Sh):Clk:=ZbQ (λ s=>s.base) sh sh.length
def lenOf(sh:List Sh):Clk:=ZbQ (λ s=>s.base+s.kept.length) sh sh.length
theorem Zcb(up:Bool)(b l:Clk)(acks:List Clk):(Zt up b l acks).size=11+acks.length*5:=by
 simp[Zt,Zb9];omega
theorem ZgS(l:List Clk):∀ u∈clkCells l,u.oneCell'=true:=by
 intro u hu;obtain⟨c,_,hc⟩:=List.mem_flatMap.1 hu;simp at hc;rcases hc with rfl | rfl | rfl | rfl | rfl <;> rfl
theorem Zdq(up:Bool)(b l:Clk)(acks:List Clk):(Zt up b l acks).all (·.oneCell')=true:=by
 rw[Array.all_eq_true_iff_forall_mem];intro v hv;rw[Array.mem_append] at hv;rcases hv with hv | hv
 ·simp at hv;rcases hv with rfl | rfl | rfl | rfl | rfl | rfl | rfl | rfl | rfl | rfl | rfl <;> rfl
 ·exact ZgS acks v (by simpa using hv)
theorem ZcT{told:List Clk}(h:told.length<=5):(Za9 told).length=5:=by
 unfold Za9;rw[ZI,List.length_replicate];omega
theorem Zqj:(prog.info? 56).map (λ i=>i.size)=some 36:=ZK
theorem ZbR(up:Bool)(b l:Clk){acks:List Clk}(h:acks.length=5):(prog.info? 56).map (λ i=>i.size)=some (Zt up b l acks).size:=by
 rw[Zcb,h];exact Zqj
theorem Reads.ao{w:World}{g n:Nat}{t:TypeId}{sz:Nat}{xs:List Value}(h:Blk w g t xs.toArray)(hl:xs.length=n*sz):Reads w w.heap.size sz (some ⟨g,0,none⟩) n xs:=by
 refine⟨hl,λ _=>⟨_,rfl,h.lt,λ j u hu=>?_⟩⟩;have e:(⟨g,0,none⟩:Addr).add j=⟨g,j,none⟩:=by unfold Addr.add;split <;> simp_all
 rw[e,h.cell];simpa using hu
theorem Ziy(a b:List Clk):clkCells (a++b)=clkCells a++clkCells b:=by simp[clkCells]
theorem Zqi(b l:Clk){told:List Clk}(h:told.length<=5){w:World}{g:Nat}{t:TypeId}(hb:Blk w g t (Zt true b l (List.replicate 5 ZCz))):Blk (setAll w g 11 (clkCells told)) g t (Zt true b l (Za9 told)):=by
 have hl:(clkCells told).length=told.length*5:=Zb9 told
 have h1:=Zba (clkCells told) 11 w (Zt true b l (List.replicate 5 ZCz)).toList (by simpa using hb) (by
  have hA:(Zt true b l (List.replicate 5 ZCz)).toList.length=36:=by rw[Array.length_toList,Zcb,List.length_replicate]
  rw[hA,hl]
  omega)
 have h2:((Zt true b l (List.replicate 5 ZCz)).toList.take 11++clkCells told++(Zt true b l (List.replicate 5 ZCz)).toList.drop (11+(clkCells told).length)).toArray=Zt true b l (Za9 told):=by
  rw[hl];have e:clkCells (Za9 told)=clkCells told++clkCells (List.replicate (5-told.length) ZCz):=Ziy _ _;unfold Zt;rw[e];have hn:told.length=0∨told.length=1∨told.length=2∨told.length=3∨told.length=4∨told.length=5:=ZO;generalize clkCells told=X;rcases hn with hn | hn | hn | hn | hn | hn
  all_goals
   rw[hn];apply Array.toList_inj.1;simp[clkCells,List.replicate]
 rw[h2] at h1;exact h1
theorem ZoE(b0 b1 b2 b3 b4 l0 l1 l2 l3 l4:Value):prog.built 56 [(0,.bool true),(1,.agg #[b0,b1,b2,b3,b4]),(2,.agg #[l0,l1,l2,l3,l4])]=some (#[.bool true,b0,b1,b2,b3,b4,l0,l1,l2,l3,l4]++(clkCells (List.replicate 5 ZCz)).toArray):=by
 kernel_rfl
end
structure Cfg where
 n:Nat
 w:Nat
 q:Nat
 h:Nat
 l:Nat
 p:Nat
structure Cfg.Ok(c:Cfg):Prop where
 n1:1<=c.n
 n5:c.n<=5
 w1:1<=c.w
 w4:c.w<=4
 q1:1<=c.q
 q8:c.q<=8
 h1:1<=c.h
 h20:c.h<=20
 l1:1<=c.l
 l4:c.l<=4
 p1:1<=c.p
 p3:c.p<=3
abbrev Zal(c:Cfg):Array Value:=#[.int .i64 c.n,.int .i64 c.w,.int .i64 c.q,.int .i64 c.h,.int .i64 c.l,.int .i64 c.p]
abbrev ZdX(c:Cfg):Value := .agg (Zal c)
theorem Blk.aS{w:World}{g:Nat}{t:TypeId}{v0 v1 v2 v3 v4 v5:Value}(h:Blk w g t #[v0,v1,v2,v3,v4,v5]):w.cell? ⟨g,0,none⟩=some v0/\w.cell? ⟨g,1,none⟩=some v1/\w.cell? ⟨g,2,none⟩=some v2/\w.cell? ⟨g,3,none⟩=some v3/\w.cell? ⟨g,4,none⟩=some v4/\w.cell? ⟨g,5,none⟩=some v5 :=
 ⟨h.cell 0,h.cell 1,h.cell 2,h.cell 3,h.cell 4,h.cell 5⟩
theorem ZrY:(prog.info? 44).map (λ i=>(i.zero,i.size,i.bytes))=some (some (.agg (clkArr ZCz)),5,40):=ZK
theorem Zqn:(prog.info? 244).map (λ i=>(i.zero,i.size,i.bytes))=some (some (.pointer none),1,8):=ZK
theorem ZlM(m:Nat)(hm:m<=5)(w:World):(Instr.makeSlice 240 (.int .i64 (m:Int)) (.int .i64 (m:Int))).run prog w = .ok (.slice (some ⟨w.heap.size,0,none⟩) m m) (w.alloc (.cells (clkCells (List.replicate m ZCz)).toArray 44)):=by
 obtain⟨i0,hi,cM,cG,cK⟩:=info_parts ZrY;have h:=run_makeSlice (P:=prog) (w:=w) 240 44 i0 (.agg (clkArr ZCz)) underlying240 hi cM .i64 .i64 (m:Int) (m:Int) ZO (Int.le_refl _) (by rw[cG];omega) (by rw[cK];omega) ZO;rw[cG] at h;simp only[Int.toNat_natCast] at h;rw[h];have e:madeCells (clkArr ZCz) (m*5)=(clkCells (List.replicate m ZCz)).toArray:=by
  rcases(by omega:m=0∨m=1∨m=2∨m=3∨m=4∨m=5) with rfl | rfl | rfl | rfl | rfl | rfl <;> kernel_rfl
 show Result.ok _ (w.alloc (.cells (madeCells (clkArr ZCz) (m*5)) _))=_
 rw[e]
structure PostPart(own:Own)(t:Nat)(w:World)(p gt most N:Nat)(k:Nat)(v:Value):Prop where
 mine:own p=t
 blk:Blk w p 243 #[v,.slice (some ⟨gt,0,none⟩) N N]
 gown:own gt=t
 told:Blk w gt 44 (clkCells (List.replicate N ZCz)).toArray
 ex:∃ ps:List Nat,ps.length=k/\w.ownsRow 0 244 1 v k (ps.map λ q => .pointer (some ⟨q,0,none⟩))/\(∀ g,v.ownBlock=some g->own g=t)/\∀ i q,ps[i]? = some q->ShelfAt own (t+1+i) w q most 0 []
theorem Upd.am{T:Nat->Prop}{own own':Own}{w w1:World}(h:Upd T own own' w w1){g:Nat}(h1:w.heap.size<=g)(h2:g<w1.heap.size)(t:Nat):Upd T own (own'.at_ g t) w w1 :=
 ⟨h.os,h.tape,h.output,h.size,λ b hb=>by
  unfold Own.at_;rw[if_neg ZO];exact h.old b hb,h.same,λ b hb=>by
  unfold Own.at_;rw[if_neg ZO]
  exact h.fresh b hb⟩
theorem ZqH{own:Own}{t:Nat}(c:Cfg)(hc:c.Ok){w:World}(hf:Fresh own w):
  Calls prog 87 #[ZdX c] w λ rr w'=>∃ p own',rr = .returned (.pointer (some ⟨p,0,none⟩))/\w.heap.size<=p/\PostAt own' t w' p c.w (List.replicate c.n ⟨0,[]⟩) (List.replicate c.n ZCz)/\Upd (· = t) own own' w w':=by
 have n1:=hc.n1;have n5:=hc.n5;have fJ:¬ ((0:Int)>(c.n:Int)):=ZO;have Cd:∀ w ts ty,(Builtin.max_ ts ty #[.int .i64 (c.n:Int),.int .i64 0]).run prog w = .ok (.int .i64 (c.n:Int)) w:=by
  intro w ts ty;rw[run_max_int2,if_neg fJ]
 have SQ:∀ w ts ty,(Builtin.min_ ts ty #[.int .i64 (c.n:Int),.int .i64 5]).run prog w = .ok (.int .i64 (c.n:Int)) w:=by
  intro w ts ty;rw[run_min_int2,if_neg ZO]
 have lN:=ZlM c.n hc.n5 (w.alloc (.cells (Zal c) 23));have HF:=ZH hf;clear hf fJ;go_enter func87,ntmps87;go_wp2_with fail;have cD:=ZBn w 23 (Zal c);have th:=(((ZKr w).alloc (.cells (Zal c) 23)).alloc (.cells (clkCells (List.replicate c.n ZCz)).toArray 44)).alloc (.cells #[.slice none 0 0,.slice (some ⟨w.heap.size+1,0,none⟩) c.n c.n] 243);have HC:=ZH ((cD.alloc (.cells (clkCells (List.replicate c.n ZCz)).toArray 44)).alloc (.cells #[.slice none 0 0,.slice (some ⟨w.heap.size+1,0,none⟩) c.n c.n] 243));have Iv:=(Z6 w (.cells (Zal c) 23) 44 (clkCells (List.replicate c.n ZCz)).toArray).alloc (.cells #[.slice none 0 0,.slice (some ⟨w.heap.size+1,0,none⟩) c.n c.n] 243);have K3:=ZBn ((w.alloc (.cells (Zal c) 23)).alloc (.cells (clkCells (List.replicate c.n ZCz)).toArray 44)) 243 #[.slice none 0 0,.slice (some ⟨w.heap.size+1,0,none⟩) c.n c.n];have e2:((w.alloc (.cells (Zal c) 23)).alloc (.cells (clkCells (List.replicate c.n ZCz)).toArray 44)).heap.size=w.heap.size+1+1:=ZM;rw[e2] at K3;have HU:Hid (Upd (· = t) own ((own.at_ (w.heap.size+1) t).at_ (w.heap.size+1+1) t) w _):=ZH (((ZUb (T:=(· = t)) th.below HF.out).am (g:=w.heap.size+1) ZO ZM t).am (g:=w.heap.size+1+1) ZO ZM t);have At:PostPart ((own.at_ (w.heap.size+1) t).at_ (w.heap.size+1+1) t) t _ (w.heap.size+1+1) (w.heap.size+1) c.w c.n 0 (.slice none 0 0) :=
  ⟨by unfold Own.at_;simp,K3,by unfold Own.at_;simp,Iv,[],rfl,⟨rfl,.inl ⟨rfl,rfl⟩⟩,λ g h=>by(cases h),λ i q h=>by simp at h⟩
 have gX:=ZH At;clear cD th Iv K3 e2 At lN;obtain⟨i0,hi,cM,cG,cK⟩:=info_parts Zqn;go_loopw [14] (λ i wr=>∃ (k:Nat) (io:Own) (v:Value),k<=c.n/\i = .int .i64 k/\Hid (Blk wr w.heap.size 23 (Zal c))/\Hid (PostPart io t wr (w.heap.size+1+1) (w.heap.size+1) c.w c.n k v)/\Hid (Upd (· = t) own io w wr)) (λ i _=>c.n-(intOf i).toNat)
 case atStart=>exact⟨0,_,_,ZO,rfl,HC,gX,HU⟩
 case round =>
  clear HC gX HU;obtain⟨k,io,v,jB,rfl,HC,gX,HU⟩:=hrel;obtain⟨d0,d1,d2,d3,d4,d5⟩:=HC.out.aS;have A7:=HC.out.lt;obtain⟨a0,a1⟩:=gX.out.blk.two;have Fg:=gX.out.blk.lt;by_cases il:k<c.n
  ·have jC:(k:Int)<(c.n:Int):=ZO;obtain⟨pp,hl,cB,cT,i6⟩:=gX.out.ex;have Gg:∃ a cap,v = .slice a k cap:=by
    rcases cB.2 with ⟨h1,h2⟩|⟨g,cap,_,h1,_⟩
    ·subst h2;exact⟨none,0,h1⟩
    ·exact⟨_,cap,h1⟩
   obtain⟨HR,HO,HS,C0⟩:=ZH4 cB cT i6 hl;clear cB cT i6 hl;obtain⟨aa,eV,rfl⟩:=Gg;go_wp2_with fail;refine ZSi [(0,3),(1,3),(2,0),(3,3),(4,0),(5,3),(6,0),(7,1),(8,1),(9,2),(10,3),(11,3),(12,2)] λ bR=>?_
   repeat((first | refine ZSa ?_ | refine ZSb ?_ | refine ZSc ?_);simp only[Act.put,ZA,ZB,ZC])
   refine ZSd λ K hK=>?_
   go_simp;refine(ZpF c.w _).mono ?_;rintro _ w2 ⟨rfl,hq,bW⟩;have cJ:=bR.step bW;have HQ:Hid (Blk w2 wr.heap.size 281 (shelfArr c.w 0 (.slice none 0 0))):=ZH hq;have cr:=ZH cJ;refine hK.out (λ w'=>Kept w2.heap.size w2 w') _ _ (λ _ h=>cJ.trans h cJ.le) (ZKr w2) (λ bT=>?_);clear hK K bR hq bW cJ;repeat((first | refine ZSa ?_ | refine ZSb ?_ | refine ZSc ?_);simp only[Act.put,ZA,ZB,ZC])
   refine ZSd λ K hK=>?_
   go_simp;have wX:wr.heap.size<w2.heap.size:=HQ.out.lt;have Ec:=ZBn w2 244 #[.pointer (some ⟨wr.heap.size,0,none⟩)];have iH:Hid (Reads (w2.alloc (.cells #[.pointer (some ⟨wr.heap.size,0,none⟩)] 244)) (w2.alloc (.cells #[.pointer (some ⟨wr.heap.size,0,none⟩)] 244)).heap.size 1 (some ⟨w2.heap.size,0,none⟩) 1 [.pointer (some ⟨wr.heap.size,0,none⟩)]):=ZH (Reads.ao Ec rfl)
   have iz:Hid (∀ u∈[Value.pointer (some ⟨wr.heap.size,0,none⟩)],u.oneCell'=true):=ZH (λ u hu=>by
    obtain rfl:u=_:=by simpa using hu
    rfl)
   refine hK.out (λ w'=>Kept w2.heap.size w2 w') _ _ (λ _ h=>h) (bT.alloc _) (λ bR=>?_);clear hK K bT Ec;repeat((first | refine ZSa ?_ | refine ZSb ?_ | refine ZSc ?_);simp only[Act.put,ZA,ZB,ZC])
   refine ZSe λ K hK=>?_
   have nN:Below wr.heap.size wr (w2.alloc (.cells #[.pointer (some ⟨wr.heap.size,0,none⟩)] 244)):=(cr.out.alloc _).below;have Cg:=Ze HR.out nN;refine ZaT _ (.tmp 20) (.tmp 24) _ rfl 0 244 i0 _ 1 8 underlying241 hi cM cG cK rfl ZO (.slice aa k eV) k (pp.map λ q => .pointer (some ⟨q,0,none⟩)) rfl Cg _ (some ⟨w2.heap.size,0,none⟩) 1 1 [.pointer (some ⟨wr.heap.size,0,none⟩)] rfl iH.out iz.out ZF ZO (Nat.zero_le _) ?_;intro v3 w3 dB ir na;have Bz:∀ g,(Value.slice aa k eV).ownBlock=some g->g<wr.heap.size:=λ g hg=>(Zb HR.out hg).2
   have co:Upd (· = t) io (io.at_ wr.heap.size (t+1+k)) wr (w2.alloc (.cells #[.pointer (some ⟨wr.heap.size,0,none⟩)] 244)):=(ZUb (T:=(· = t)) nN HU.out.fresh).am (ZL _) ZP _
   have cO:=co.grow (t:=t) rfl (λ g hg=>by
    unfold Own.at_;rw[if_neg (by have:=Bz g hg;omega)]
    exact HO.out g hg) (λ g hg=>(Zb dB hg).2) ir na
   have rK:(Value.slice aa k eV).ownBlock≠some (w.heap.size+1+1):=Zo HR.out gX.out.blk ZJ;have fg:=(gX.out.blk.ob nN).grown ir (Ne.symm rK);have OL:=(gX.out.told.ob nN).grown ir (Ne.symm (Zo HR.out gX.out.told ZJ));have Ol:=(HC.out.ob nN).grown ir (Ne.symm (Zo HR.out HC.out ZJ));have OC:=(HQ.out.alloc (.cells #[.pointer (some ⟨wr.heap.size,0,none⟩)] 244)).grown ir (λ e=>by have:=Bz _ e.symm;omega);obtain⟨cg,du⟩:∃ cg,cg=(io.at_ wr.heap.size (t+1+k)).put v3 t:=⟨_,rfl⟩;have OD:cg wr.heap.size=t+1+k:=by
    rw[du,cO.2 _ ZP];unfold Own.at_;rw[if_pos rfl]
   have xh:∀ g,v3.ownBlock=some g->cg g=t:=λ g hg=>by
    rw[du];unfold Own.put;rw[if_pos hg]
   rw[←du] at cO;have En:cg (w.heap.size+1+1)=t:=by
    rw[cO.1.old _ Fg];exact gX.out.mine
   have F1:∀ i q,(pp++[wr.heap.size])[i]? = some q->ShelfAt cg (t+1+i) w3 q c.w 0 []:=λ i q hq=>by
    rw[List.getElem?_append] at hq;split at hq
    ·exact(HS.out i q hq).upd cO.1 ZO
    ·have wC:i-pp.length=0:=by
      have:=(ZZ.1 hq).1;simp at this;omega
     rw[wC] at hq;have hq:wr.heap.size=q:=by simpa using hq
     subst hq;have LI:i=k:=by
      have:=C0.out;omega
     subst LI;exact⟨OD,_,OC,RowAt.nil _ _ _⟩
   obtain⟨a3,dm,rfl⟩:∃ a cap,v3 = .slice a (k+1) cap:=by
    rcases dB.2 with ⟨h1,h2⟩|⟨g,cap,_,h1,_⟩
    ·omega
    ·exact⟨_,cap,h1⟩
   have bU:=fg.cell 0;have gA:=fg.frozen 0;simp only[ZD,ZE] at bU;have np:=fg.lt;obtain⟨jl,dj,Rz,ul,dI,kD,zZ,zR⟩:=ZH8 dB fg OL Ol (HU.out.trans cO.1) En xh F1;have rT:Hid (cg (w.heap.size+1)=t):=ZH (by rw[cO.1.old _ gX.out.told.lt];exact gX.out.gown);have HPT:Hid ((w.heap.size+1+1:Nat)≠w.heap.size+1):=ZH ZO;clear dB fg OL Ol OC co cO En OD xh F1 ir na du rK Bz Cg nN;refine hK.out _ _ ?_;clear hK K bR;repeat((first | refine ZSa ?_ | refine ZSb ?_ | refine ZSc ?_);simp only[Act.put,ZA,ZB,ZC])
   refine ZSe λ K hK=>?_
   go_simp;refine hK.out _ _ ?_;clear hK K;refine ZSf ?_;go_wp2
   go_roundw
   case rel =>
    refine⟨k+1,cg,.slice a3 (k+1) dm,ZO,ZN,ZH (ul.out.far (by show w.heap.size≠w.heap.size+1+1;omega) _),ZH ⟨kD.out,dj.out.ai 0 _,rT.out,Rz.out.far (by show w.heap.size+1≠w.heap.size+1+1;omega) _,pp++[wr.heap.size],by rw[ZI,C0.out];rfl,?_,zZ.out,λ i q hq=>?_⟩,ZH (dI.out.setCell (p:=⟨w.heap.size+1+1,0,none⟩) (λ h=>absurd h (by show ¬ (w.heap.size+1+1<w.heap.size);omega)) _)⟩
    ·rw[List.map_append];exact Zh jl.out (λ g hg _=>Below.heap_setCell _ _ _ _ (λ he=>Zo jl.out dj.out ZJ (by rw[hg,he])))
    ·have h:=zR.out i q hq;exact h.upd ((Upd.refl (· = t) cg w3 dI.out.fresh).setCell (p:=⟨w.heap.size+1+1,0,none⟩) (λ _=>kD.out) _) ZO
   case measure=>simp[intOf];omega
  ·obtain rfl:k=c.n:=ZO;go_wp2
   go_ret;obtain⟨pp,hl,cB,cT,i6⟩:=gX.out.ex;rcases cB.2 with ⟨h1,h2⟩|⟨g,cap,cur,h1,_,bY,fZ,hcap2,dL,js⟩
   ·omega
   ·subst h1;have kX:(List.replicate c.n (⟨0,[]⟩:Sh)).length=c.n:=List.length_replicate;refine⟨_,io,rfl,ZO,⟨gX.out.mine,ZM,g,cap,w.heap.size+1,cur,by rw[kX];exact gX.out.blk,cT g rfl,gX.out.gown,by rw[kX];exact fZ,bY,gX.out.told,λ i s hs=>?_⟩,HU.out⟩;have hi:i<c.n:=by
     have:=(ZZ.1 hs).1;rwa [kX] at this
    obtain rfl:s=⟨0,[]⟩:=List.eq_of_mem_replicate (ZY hs);obtain⟨q,hq⟩:∃ q,pp[i]? = some q:=⟨_,ZX ZO⟩;refine⟨q,?_,i6 i q hq⟩;have e:=congrArg (λ l:List Value=>l[i]?) js;simp only[List.getElem?_map,hq,Option.map_some] at e;rw[List.getElem?_take,if_pos ZO,Array.getElem?_toList] at e;exact e
def Zed(x k:Int):Int:=1+(x.tmod k+k).tmod k
theorem Zb2(x:Int){k:Int}(hk:0<k):1<=Zed x k/\Zed x k<=k:=by
 unfold Zed;have h1:=Int.tmod_lt_of_pos x hk;have h2 : -k<x.tmod k:=by
  have:=Int.tmod_lt_of_pos (-x) hk;rw[Int.neg_tmod] at this;omega
 have h3:0<=x.tmod k+k:=ZO;have h4:=Int.tmod_nonneg k h3;have h5:=Int.tmod_lt_of_pos (x.tmod k+k) hk;omega
theorem w64{n:Int}(h0:0<=n)(h1:n<9223372036854775808):wrap64 n=n:=by unfold wrap64;omega
theorem Zfa(x:Int){k:Int}(hk:0<k)(cJ:k<=1000):wrap64 (1+(wrap64 (x.tmod k+k)).tmod k)=((Zed x k).toNat:Int):=by
 have h1:=Int.tmod_lt_of_pos x hk;have h2 : -k<x.tmod k:=by
  have:=Int.tmod_lt_of_pos (-x) hk;rw[Int.neg_tmod] at this;omega
 have h3:=Zb2 x hk;have e0:wrap64 (x.tmod k+k)=x.tmod k+k:=w64 ZO ZO;have e:1+(x.tmod k+k).tmod k=Zed x k:=rfl;rw[e0,e,w64 ZO ZO];omega
def Znt(x0 x1 x2 x3 x4 x5:Int):Cfg:=⟨(Zed x0 5).toNat,(Zed x1 4).toNat,(Zed x2 8).toNat,(Zed x3 20).toNat,(Zed x4 4).toNat,(Zed x5 3).toNat⟩
theorem ZsU(x0 x1 x2 x3 x4 x5:Int):(Znt x0 x1 x2 x3 x4 x5).Ok:=by
 have h0:=Zb2 x0 (k:=5) ZO;have h1:=Zb2 x1 (k:=4) ZO;have h2:=Zb2 x2 (k:=8) ZO;have h3:=Zb2 x3 (k:=20) ZO;have h4:=Zb2 x4 (k:=4) ZO;have h5:=Zb2 x5 (k:=3) ZO;constructor <;> simp only[Znt] <;> omega
theorem ZsY(x0 x1 x2 x3 x4 x5:Int)(w:World):Calls prog 11 #[.agg #[.int .i64 x0,.int .i64 x1,.int .i64 x2,.int .i64 x3,.int .i64 x4,.int .i64 x5]] w (Zv (ZdX (Znt x0 x1 x2 x3 x4 x5)) w):=by
 have hb:=(ZBn w 23 #[.int .i64 x0,.int .i64 x1,.int .i64 x2,.int .i64 x3,.int .i64 x4,.int .i64 x5]).alloc (.cells #[.int .i64 0,.int .i64 0,.int .i64 0,.int .i64 0,.int .i64 0,.int .i64 0] 23);obtain⟨c0,c1,c2,c3,c4,c5⟩:=hb.aS;have hl:=hb.lt;clear hb;go_enter func11,ntmps11;go_wp2_with fail;rw[Zfa x0 ZO ZO,Zfa x1 ZO ZO,Zfa x2 ZO ZO,Zfa x3 ZO ZO,Zfa x4 ZO ZO,Zfa x5 ZO ZO];have gy:=ZBn (w.alloc (.cells #[.int .i64 x0,.int .i64 x1,.int .i64 x2,.int .i64 x3,.int .i64 x4,.int .i64 x5] 23)) 23 (Zal (Znt x0 x1 x2 x3 x4 x5));rw[World.size_alloc] at gy;refine bodyPost_ret (Zac rfl rfl (run_loadVar_row _ _ _ _ _ _ _ gy underlying23 rfl ZK)) rfl ?_;exact⟨rfl,(((ZKr w).alloc _).alloc _).below⟩
def Zej(k:ByteArray):Nat->Nat
 | 0=>0
 | n+1=>Zej k n+(k.data.getD n 0).toNat
theorem ZfQ(k:ByteArray):∀ n,Zej k n<=255*n
 | 0=>ZL _
 | n+1=>by
  have h:=ZfQ k n;have h2:(k.data.getD n 0).toNat<256:=UInt8.toNat_lt _;show Zej k n+_<=_
  omega
theorem Zkp(k:ByteArray){n:Nat}(h:n<k.size):Zej k (n+1)=Zej k n+(k[n]).toNat:=by
 show Zej k n+(k.data.getD n 0).toNat=_
 have e:k.data.getD n 0=k[n]:=by
  rw[Array.getD_eq_getD_getElem?,Array.getElem?_eq_getElem (show n<k.data.size from h)];rfl
 rw[e]
def Zef:ByteArray:=⟨#[97,110,110]⟩
def Zeg:ByteArray:=⟨#[98,111,98]⟩
def kCy:ByteArray:=⟨#[99,121]⟩
def Zd0(n:Nat):ByteArray:=if n%3=0 then Zef else if n%3=1 then Zeg else kCy
def v0F:ByteArray:=⟨#[49]⟩
def v1F:ByteArray:=⟨#[116,119,111]⟩
def v2F:ByteArray:=⟨#[0,255]⟩
def v3F:ByteArray:=⟨#[116,119,101,108,118,101,32,98,121,116,101,115]⟩
def Zgw(n:Nat):ByteArray:=if n%4=0 then v0F else if n%4=1 then v1F else if n%4=2 then v2F else v3F
def ZcX(x:Int):Nat:=(Zed x 5).toNat
def Zg3(k:Nat)(l:Int):Nat:=if k<=2 then 0 else(l%2).toNat
def ZeG(k:Nat)(v:ByteArray):ByteArray:=if k<=2 then ByteArray.empty else Zgw (Zej v v.size)
theorem Zsw:KeyOk Zef/\KeyOk Zeg/\KeyOk kCy:=by
 unfold KeyOk;decide
theorem ZrZ(n:Nat):KeyOk (Zd0 n):=by
 have h:=Zsw;unfold Zd0;split
 ·exact h.1
 ·split
  ·exact h.2.1
  ·exact h.2.2
theorem Zse(n:Nat):1<=(Zgw n).size/\(Zgw n).size<=12:=by
 unfold Zgw;split
 ·decide
 ·split
  ·decide
  ·split <;> decide
theorem ZhT(x:Int):1<=ZcX x/\ZcX x<=5:=by
 have h:=Zb2 x (k:=5) ZO;unfold ZcX;omega
theorem ZsV(x:Int)(k:ByteArray)(l:Int)(v:ByteArray):EditOk (ZcX x) (Zd0 (Zej k k.size)) (Zg3 (ZcX x) l) (ZeG (ZcX x) v):=by
 have hk:=ZhT x;refine⟨hk.1,hk.2,ZrZ _,λ h=>?_,λ h=>?_⟩
 ·unfold Zg3 ZeG;rw[if_pos h,if_pos h];exact⟨rfl,rfl⟩
 ·unfold Zg3 ZeG;rw[if_neg ZO,if_neg ZO];exact⟨ZO,Zse _⟩
theorem ZsO(l:Int):bits .and .i64 l 1=((l%2).toNat:Int):=by
 have e:(BitVec.ofInt 64 l &&& BitVec.ofInt 64 1).toNat=(l%2).toNat:=by
  rw[BitVec.toNat_and,show(BitVec.ofInt 64 1).toNat=1 from rfl,Nat.and_one_is_mod,BitVec.toNat_ofInt];omega
 show IntKind.i64.wrap ((BitVec.ofInt 64 l &&& BitVec.ofInt 64 1).toNat:Int)=_
 rw[e,IntKind.wrap_i64];omega
theorem Zo8{w:World}{g t:Nat}(h:Blk w g t #[.string Zef,.string Zeg,.string kCy])(n:Nat):w.cell? ⟨g,n%3,none⟩=some (.string (Zd0 n)):=by
 rw[h.cell];unfold Zd0;have h3:n%3=0∨n%3=1∨n%3=2:=ZO;rcases h3 with e | e | e <;> rw[e] <;> rfl
theorem ZpS{w:World}{g t:Nat}(h:Blk w g t #[.string v0F,.string v1F,.string v2F,.string v3F])(n:Nat):w.cell? ⟨g,n%4,none⟩=some (.string (Zgw n)):=by
 rw[h.cell];unfold Zgw;have h3:n%4=0∨n%4=1∨n%4=2∨n%4=3:=ZO;rcases h3 with e | e | e | e <;> rw[e] <;> rfl
theorem ZsZ(x:Int)(k:ByteArray)(l:Int)(v:ByteArray)(w:World)(hk:k.size<=140737488351232)(hv:v.size<=140737488351232):
  Calls prog 25 #[.agg #[.int .i64 x,.string k,.int .i64 l,.string v]] w (Zv (ZeZ (ZcX x) (Zd0 (Zej k k.size)) (Zg3 (ZcX x) l) (ZeG (ZcX x) v)) w):=by
 obtain⟨df,di⟩:=ZH2 (((((ZKr w).alloc (.cells #[.int .i64 x,.string k,.int .i64 l,.string v] 33)).alloc (.cells #[.int .i64 0,.string ⟨#[]⟩,.int .i64 0,.string ⟨#[]⟩] 33)).alloc (.cells #[.string Zef,.string Zeg,.string kCy] 110)).alloc (.cells #[.string v0F,.string v1F,.string v2F,.string v3F] 111)) ((((ZBn w 33 #[.int .i64 x,.string k,.int .i64 l,.string v]).alloc (.cells #[.int .i64 0,.string ⟨#[]⟩,.int .i64 0,.string ⟨#[]⟩] 33)).alloc (.cells #[.string Zef,.string Zeg,.string kCy] 110)).alloc (.cells #[.string v0F,.string v1F,.string v2F,.string v3F] 111));have bS:=((ZBn (w.alloc (.cells #[.int .i64 x,.string k,.int .i64 l,.string v] 33)) 33 #[.int .i64 0,.string ⟨#[]⟩,.int .i64 0,.string ⟨#[]⟩]).alloc (.cells #[.string Zef,.string Zeg,.string kCy] 110)).alloc (.cells #[.string v0F,.string v1F,.string v2F,.string v3F] 111);have bW:=(ZBn ((w.alloc (.cells #[.int .i64 x,.string k,.int .i64 l,.string v] 33)).alloc (.cells #[.int .i64 0,.string ⟨#[]⟩,.int .i64 0,.string ⟨#[]⟩] 33)) 110 #[.string Zef,.string Zeg,.string kCy]).alloc (.cells #[.string v0F,.string v1F,.string v2F,.string v3F] 111);have bZ:=ZBn (((w.alloc (.cells #[.int .i64 x,.string k,.int .i64 l,.string v] 33)).alloc (.cells #[.int .i64 0,.string ⟨#[]⟩,.int .i64 0,.string ⟨#[]⟩] 33)).alloc (.cells #[.string Zef,.string Zeg,.string kCy] 110)) 111 #[.string v0F,.string v1F,.string v2F,.string v3F];simp only[World.size_alloc] at bS bW bZ;obtain⟨cL,cH,dj⟩:=ZH3 bS bW bZ;clear bS bW bZ;have h1:=di.out.cell 1;simp only[ZD,ZE,ZG] at h1;have hl:=di.out.lt;clear h1 hl;go_enter func25,ntmps25;go_wp2_with fail;have e:(((w.alloc (.cells #[.int .i64 x,.string k,.int .i64 l,.string v] 33)).alloc (.cells #[.int .i64 0,.string ⟨#[]⟩,.int .i64 0,.string ⟨#[]⟩] 33)).alloc (.cells #[.string Zef,.string Zeg,.string kCy] 110)).alloc (.cells #[.string v0F,.string v1F,.string v2F,.string v3F] 111)=(((w.alloc (.cells #[.int .i64 x,.string k,.int .i64 l,.string v] 33)).alloc (.cells #[.int .i64 0,.string ⟨#[]⟩,.int .i64 0,.string ⟨#[]⟩] 33)).alloc (.cells #[.string ⟨#[97,110,110]⟩,.string ⟨#[98,111,98]⟩,.string ⟨#[99,121]⟩] 110)).alloc (.cells #[.string ⟨#[49]⟩,.string ⟨#[116,119,111]⟩,.string ⟨#[0,255]⟩,.string ⟨#[116,119,101,108,118,101,32,98,121,116,101,115]⟩] 111):=rfl;rw[←e];generalize (((w.alloc (.cells #[.int .i64 x,.string k,.int .i64 l,.string v] 33)).alloc (.cells #[.int .i64 0,.string ⟨#[]⟩,.int .i64 0,.string ⟨#[]⟩] 33)).alloc (.cells #[.string Zef,.string Zeg,.string kCy] 110)).alloc (.cells #[.string v0F,.string v1F,.string v2F,.string v3F] 111)=W at *;clear e;go_loopw [5,6] (λ a i wr=>∃ q:Nat,q<=k.size/\i = .int .i64 q/\a = .int .i64 (Zej k q)/\W=wr) (λ _ i _=>k.size-(intOf i).toNat)
 case atStart=>exact⟨0,ZO,rfl,rfl,rfl⟩
 case round =>
  obtain⟨q,hq,rfl,rfl,rfl⟩:=hrel;have h1:=di.out.cell 1;simp only[ZD,ZE,ZG] at h1;have hl:=di.out.lt;by_cases FJ:q<k.size
  ·have hs:=ZfQ k q;have rO:=Zkp k FJ;have KL:(k[q]).toNat<256:=UInt8.toNat_lt _;have zQ:=ZH rO;clear rO;go_wp2
   go_roundw
   case rel=>exact⟨q+1,ZO,ZN,by rw[zQ.out,Int.natCast_add],by first | trivial | rfl⟩
   case measure=>simp[intOf];omega
  ·obtain rfl:q=k.size:=ZO;obtain⟨n,hn⟩:∃ n,n=Zej k k.size:=⟨_,rfl⟩;have fe:=ZfQ k k.size;rw[←hn] at fe ⊢;have HN:=ZH hn;clear hn FJ;go_wp2_with fail;go_loopw [7,8] (λ a i wr=>∃ q:Nat,q<=v.size/\i = .int .i64 q/\a = .int .i64 (Zej v q)/\W=wr) (λ _ i _=>v.size-(intOf i).toNat)
   case atStart=>exact⟨0,ZO,rfl,rfl,rfl⟩
   case round =>
    obtain⟨q,hq,rfl,rfl,rfl⟩:=hrel;have h3:=di.out.cell 3;simp only[ZD,ZE,ZG] at h3;by_cases FJ:q<v.size
    ·have hs:=ZfQ v q;have rO:=Zkp v FJ;have KL:(v[q]).toNat<256:=UInt8.toNat_lt _;have zQ:=ZH rO;clear rO;go_wp2
     go_roundw
     case rel=>exact⟨q+1,ZO,ZN,by rw[zQ.out,Int.natCast_add],by first | trivial | rfl⟩
     case measure=>simp[intOf];omega
    ·obtain rfl:q=v.size:=ZO;obtain⟨m,hm⟩:∃ m,m=Zej v v.size:=⟨_,rfl⟩;have jh:=ZfQ v v.size;rw[←hm] at jh ⊢;have HM:=ZH hm;clear hm FJ;have wC:(0:Int)<=(n:Int).tmod 3:=Int.tmod_nonneg _ ZO;have O6:(n:Int).tmod 3<3:=Int.tmod_lt_of_pos _ ZO;have Hm:Hid (((n:Int).tmod 3).toNat=n%3):=ZH (rfl);go_wp2_with fail;refine ZSh (λ w'=>Blk w' w.heap.size 33 #[.int .i64 x,.string k,.int .i64 l,.string v]/\Blk w' (w.heap.size+1+1) 110 #[.string Zef,.string Zeg,.string kCy]) [(0,3),(1,0),(2,3),(3,3),(4,3),(5,3),(6,3),(7,3),(8,3),(9,0),(10,3),(11,1),(12,1)] (⟨di.out.drew,cH.out.drew⟩) λ bR=>?_
     repeat((first | refine ZSa ?_ | refine ZSb ?_ | (refine Zf rfl (by rfl) (λ w' ci=>by(have c0:=ci.1.cell 0;simp only[ZD,ZE] at c0;have wD:=Zo8 ci.2 n;rw[←Hm.out] at wD);go_simp;with_reducible rfl) ?_));simp only[Act.put,ZA,ZB,ZC])
     refine ZSd λ K hK=>?_
     go_simp;refine hK.out (λ w'=>Blk w' w.heap.size 33 #[.int .i64 x,.string k,.int .i64 l,.string v]/\Blk w' (w.heap.size+1+1) 110 #[.string Zef,.string Zeg,.string kCy]) _ _ (λ _ h=>h) ⟨(di.out.alloc _).drew,(cH.out.alloc _).drew⟩ (λ _=>?_);clear hK K;refine ZSd λ K hK=>?_
     go_simp;refine hK.out (λ w'=>Blk w' w.heap.size 33 #[.int .i64 x,.string k,.int .i64 l,.string v]/\Blk w' (w.heap.size+1+1) 110 #[.string Zef,.string Zeg,.string kCy]) _ _ (λ _ h=>h) ⟨(di.out.alloc _).drew,(cH.out.alloc _).drew⟩ (λ _=>?_);clear hK K;refine ZSf ?_;have oE:=ZhT x;have ek:IntKind.i64.wrap (1+(IntKind.i64.wrap (x.tmod 5+5)).tmod 5)=(ZcX x:Int):=by
      have h:=Zfa x (k:=5) ZO ZO;have h2:∀ n,IntKind.i64.wrap n=wrap64 n:=λ n=>by rw[IntKind.wrap_i64];unfold wrap64;rfl
      rw[←h2,←h2] at h;exact h
     rw[ek];obtain⟨K,hK⟩:∃ K,K=ZcX x:=⟨_,rfl⟩;rw[←hK] at oE ⊢;have BO:=ZH hK;have fJ:=(ZBn W 33 #[.int .i64 (K:Int),.string (Zd0 n),.int .i64 0,.string ⟨#[]⟩]).drew;have cr:=ZH ((df.out.alloc (.cells #[.int .i64 (K:Int),.string (Zd0 n),.int .i64 0,.string ⟨#[]⟩] 33)).drew);have bW:=(di.out.alloc (.cells #[.int .i64 (K:Int),.string (Zd0 n),.int .i64 0,.string ⟨#[]⟩] 33)).drew;have dC:=(cL.out.alloc (.cells #[.int .i64 (K:Int),.string (Zd0 n),.int .i64 0,.string ⟨#[]⟩] 33)).drew;have Ck:=(dj.out.alloc (.cells #[.int .i64 (K:Int),.string (Zd0 n),.int .i64 0,.string ⟨#[]⟩] 33)).drew;have iV:w.heap.size+1+1+1<W.heap.size:=dj.out.lt;obtain⟨g,hg⟩:∃ g,g=W.heap.size:=⟨_,rfl⟩;rw[←hg] at fJ iV ⊢;clear hK ek wC O6 Hm hg h1 h3 hl di cL cH dj df;generalize (W.alloc (.cells #[.int .i64 (K:Int),.string (Zd0 n),.int .i64 0,.string ⟨#[]⟩] 33)).drew=W2 at *;obtain⟨us,eU⟩:=ZH2 fJ dC;obtain⟨d0,d1,d2,d3⟩:_/\_/\_/\_:=⟨fJ.cell 0,fJ.cell 1,fJ.cell 2,fJ.cell 3⟩;simp only[ZD,ZE,ZG] at d0 d1 d2 d3;have eB:=fJ.lt;have OZ:=λ i=>fJ.frozen i
     have e2:=bW.cell 2;simp only[ZD,ZE,ZG] at e2;have cQ:=bW.lt;have IQ:=ZpS Ck m;have yX:=Ck.lt;have hrf:=λ i=>dC.frozen i
     obtain⟨f0,f1,f2,f3⟩:_/\_/\_/\_:=⟨dC.cell 0,dC.cell 1,dC.cell 2,dC.cell 3⟩;simp only[ZD,ZE,ZG] at f0 f1 f2 f3;have kX:=dC.lt;clear fJ dC bW Ck;have QK:=ZH (ZsO l);by_cases gm:K<=2
     ·go_wp2_with fail;have dx:=((((eU.out.ai 0 (.int .i64 (K:Int))).ai 1 (.string (Zd0 n))).ai 2 (.int .i64 0)).ai 3 (.string ⟨#[]⟩));refine bodyPost_ret (Zac rfl rfl (run_loadVar_row _ _ _ _ _ _ _ dx underlying33 rfl ZK)) rfl ?_;refine⟨?_,((((cr.out.setCell (p:=⟨_,0,none⟩) (by show _<=w.heap.size+1;omega) _).setCell (p:=⟨_,1,none⟩) (by show _<=w.heap.size+1;omega) _).setCell (p:=⟨_,2,none⟩) (by show _<=w.heap.size+1;omega) _).setCell (p:=⟨_,3,none⟩) (by show _<=w.heap.size+1;omega) _).below⟩;have e1:Zg3 (ZcX x) l=0:=by unfold Zg3;rw[←BO.out,if_pos gm]
      have e2:ZeG (ZcX x) v=⟨#[]⟩:=by unfold ZeG;rw[←BO.out,if_pos gm];rfl
      rw[e1,e2,←BO.out,←HN.out];rfl
     ·go_wp2_with fail;rw[QK.out];have Pb:g≠w.heap.size+1:=ZO;have dx:=(((((eU.out.far (p:=⟨g,2,none⟩) Pb.symm (.int .i64 ((l%2).toNat:Int))).far (p:=⟨g,3,none⟩) Pb.symm (.string (Zgw m))).ai 0 (.int .i64 (K:Int))).ai 1 (.string (Zd0 n))).ai 2 (.int .i64 ((l%2).toNat:Int))).ai 3 (.string (Zgw m));refine bodyPost_ret (Zac rfl rfl (run_loadVar_row _ _ _ _ _ _ _ dx underlying33 rfl ZK)) rfl ?_;refine⟨?_,((((((cr.out.setCell (p:=⟨g,2,none⟩) (by show _<=g;omega) _).setCell (p:=⟨g,3,none⟩) (by show _<=g;omega) _).setCell (p:=⟨_,0,none⟩) (by show _<=w.heap.size+1;omega) _).setCell (p:=⟨_,1,none⟩) (by show _<=w.heap.size+1;omega) _).setCell (p:=⟨_,2,none⟩) (by show _<=w.heap.size+1;omega) _).setCell (p:=⟨_,3,none⟩) (by show _<=w.heap.size+1;omega) _).below⟩;have e1:Zg3 (ZcX x) l=(l%2).toNat:=by unfold Zg3;rw[←BO.out,if_neg gm]
      have e2:ZeG (ZcX x) v=Zgw m:=by unfold ZeG;rw[←BO.out,if_neg gm,←HM.out]
      rw[e1,e2,←BO.out,←HN.out];rfl
structure Con where
 key:ByteArray
 h0:Bool
 h1:Bool
 f0:ByteArray
 f1:ByteArray
 s0:List ByteArray
 s1:List ByteArray
abbrev Za3(c:Con)(v0 v1:Value):Array Value:=#[.string c.key,.bool c.h0,.bool c.h1,.string c.f0,.string c.f1,v0,v1]
theorem Ze5(a b:ByteArray):(a.toList==b.toList)=true↔a=b:=by
 rw[←beq_toListBytes];exact Go.MapKept.bytes_beq a b
theorem ZoN(c:Con)(a0 a1:Option Addr)(n0 c0 n1 c1:Nat)(g:Nat)(ek:ByteArray){w:World}(hk:w.cell? ⟨g,1,none⟩=some (.string ek))(hg:g<w.heap.size):
  Calls prog 109 #[.agg (Za3 c (.slice a0 n0 c0) (.slice a1 n1 c1)),.pointer (some ⟨g,0,none⟩)] w λ r w'=>∃ t:Bool,r = .returned (.bool t)/\(t=true↔c.key=ek)/\Below w.heap.size w w':=by
 go_enter func109,ntmps109;go_wp2
 go_ret;exact⟨_,rfl,Ze5 _ _,(ZW _ _).alloc (ZL _) _⟩
theorem ZbV(a b:ByteArray):(a.toList==b.toList)=decide (a=b):=by
 by_cases h:a=b
 ·rw[(Ze5 a b).2 h];simp[h]
 ·rw[decide_eq_false h]
  cases hc:a.toList==b.toList with
  | false=>rfl
  | true=>exact absurd ((Ze5 a b).1 hc) h
def ZdS(a b:Ev):Bool:=decide (a.key=b.key)
def ZeE(a b:Ev):Bool:=ZdS a b&&decide (a.label=b.label)
def ZdC(a b:Ev):Bool:=ZeE a b&&decide (a.value=b.value)
theorem ZfA(a b:Ev)(w:World):Calls prog 182 #[Zaa a,Zaa b] w (Zv (.bool (ZdS a b)) w):=by
 go_enter func182,ntmps182;go_wp2
 go_ret;exact⟨by rw[ZbV];rfl,(((ZKr w).alloc _).alloc _).below⟩
theorem ZkK(a b:Ev)(w:World):Calls prog 219 #[Zaa a,Zaa b] w (Zv (.bool (ZeE a b)) w):=by
 have hx:=λ W=>ZfA a b W
 obtain⟨HA,HB,uX⟩:=ZH3 ((ZBn w 89 (evArr a)).alloc (.cells (evArr b) 89)) (Z6 w (.cells (evArr a) 89) 89 (evArr b)) (Zbu w (.cells (evArr a) 89) (.cells (evArr b) 89));go_enter func219,ntmps219;go_wp2_with fail;refine(hx _).mono ?_;rintro r w1 ⟨rfl,bS⟩;have Aq:=HA.out.ob bS;have cW:=HB.out.ob bS;obtain⟨a0,a1,a2,a3,a4,a5,a6,a7,a8,a9,rk,Kw⟩:=Aq.ae;obtain⟨b0,b1,b2,b3,b4,b5,b6,b7,b8,b9,NV,NW⟩:=cW.ae;have A0:=Aq.lt;have sd:=cW.lt;have cL:=ZH (uX.out.trans (bS.mono ZP));clear bS Aq cW;rcases uh:ZdS a b with _ | _
 ·go_wp2
  go_ret;exact⟨by simp[ZeE,uh],cL.out⟩
 ·go_wp2
  go_ret;exact⟨by simp[ZeE,uh,ZgP],cL.out⟩
theorem Zi6(a b:Ev)(w:World):Calls prog 184 #[Zaa a,Zaa b] w (Zv (.bool (ZdC a b)) w):=by
 have hx:=λ W=>ZkK a b W
 obtain⟨HA,HB,uX⟩:=ZH3 ((ZBn w 89 (evArr a)).alloc (.cells (evArr b) 89)) (Z6 w (.cells (evArr a) 89) 89 (evArr b)) (Zbu w (.cells (evArr a) 89) (.cells (evArr b) 89));go_enter func184,ntmps184;go_wp2_with fail;refine(hx _).mono ?_;rintro r w1 ⟨rfl,bS⟩;have Aq:=HA.out.ob bS;have cW:=HB.out.ob bS;obtain⟨a0,a1,a2,a3,a4,a5,a6,a7,a8,a9,rk,Kw⟩:=Aq.ae;obtain⟨b0,b1,b2,b3,b4,b5,b6,b7,b8,b9,NV,NW⟩:=cW.ae;have A0:=Aq.lt;have sd:=cW.lt;have cL:=ZH (uX.out.trans (bS.mono ZP));clear bS Aq cW;rcases uh:ZeE a b with _ | _
 ·go_wp2
  go_ret;exact⟨by simp[ZdC,uh],cL.out⟩
 ·go_wp2
  go_ret;exact⟨by simp[ZdC,uh,ZbV],cL.out⟩
def Zgd(p:Ev->Bool)(l:List Ev):Int:=match l.findIdx? p with | some k=>k | none => -1
theorem Zqm{w:World}{a:Option Addr}{n cap:Nat}{l:List Ev}(h:EvSl w a n cap l)(hn:n<=1000000)(F:Nat)(mo:Array Value)(p:Ev->Bool)(kH:∀ args W,(callFunc F args).run prog W = .ok (.enter F args) W)
  (eX:∀ W e,e∈l->Below w.heap.size w W->Calls prog F (#[Zaa e]++mo) W (Zv (.bool (p e)) W)) :
  Calls prog 239 #[.slice a n cap,.func (.func F) #[] mo] w (Zv (.int .i64 (Zgd p l)) w):=by
 obtain⟨fE,HS,sv⟩:=ZH3 (h.2.2.1) h eX;clear h eX;go_enter func239,ntmps239;go_wp2_with fail;go_loopw [5,8] (λ _ i wr=>∃ q:Nat,q<=n/\i = .int .i64 q/\Hid (∀ j c,j<q->l[j]? = some c->p c=false)/\Hid (Kept w.heap.size w wr)) (λ _ i _=>n-(intOf i).toNat)
 case atStart=>exact⟨0,ZO,rfl,ZH (λ j x hj=>ZO),ZH (ZKr w)⟩
 case round =>
  obtain⟨q,hq,rfl,HN,HK⟩:=hrel;by_cases dy:q<n
  ·obtain⟨c,hc⟩:∃ c,l[q]? = some c:=⟨_,ZX (by rw[fE.out];exact dy)⟩;have hs:=HS.out.of_same (w':=wr) (λ ad _ hl=>HK.out.below.block _ hl) HK.out.le;obtain⟨bk,off,rfl,cQ,c0,c1,c2,c3,c4,c5,c6,c7,c8,c9,cP,cR⟩:=hs.at_ hc;obtain⟨I7,HC⟩:=ZH2 (sv.out wr c (ZY hc) HK.out.below) hc;clear hs hc;go_wp2_with fail;refine I7.out.mono ?_;rintro _ w3 ⟨rfl,bZ⟩;have cC:=ZH (HK.out.step bZ);clear bZ;rcases Pt:p c with _ | _
   ·go_wp2
    go_roundw
    case rel=>exact⟨q+1,ZO,ZN,ZH (λ j y hj hy=>by
     rcases Nat.lt_or_ge j q with h | h
     ·exact HN.out j y h hy
     ·obtain rfl:j=q:=ZO;rw[HC.out] at hy;injection hy with hy;rw[←hy]
      exact Pt),cC⟩
    case measure=>simp[intOf];omega
   ·have jK:Zgd p l=(q:Int):=by
     have Mm:q<l.length:=by rw[fE.out];exact dy
     have:l.findIdx? p=some q:=List.findIdx?_eq_some_iff_getElem.2 ⟨Mm,by
      have:=HC.out;rw[ZX Mm] at this;injection this with this;rw[this];exact Pt,λ j hj=>by
      rw[HN.out j _ hj (ZX ZO)]
      simp⟩
     unfold Zgd;rw[this]
    go_wp2
    go_ret;exact⟨by rw[jK];rfl,cC.out.below⟩
  ·obtain rfl:q=n:=ZO;have jK:Zgd p l = -1:=by
    have:l.findIdx? p=none:=by
     rw[List.findIdx?_eq_none_iff];intro x hx;obtain⟨j,hj,he⟩:=List.getElem_of_mem hx;exact HN.out j x (by rw[←fE.out];exact hj) (by rw[ZX hj,he])
    unfold Zgd;rw[this]
   go_wp2
   go_ret;exact⟨by rw[jK];rfl,HK.out.below⟩
theorem Zo0(p:Ev->Bool)(l:List Ev):decide (Zgd p l>=0)=l.any p:=by
 unfold Zgd
 cases h:l.findIdx? p with
 | none =>
  rw[List.findIdx?_eq_none_iff] at h;have:l.any p=false:=by rw[List.any_eq_false];intro x hx;simp[h x hx]
  rw[this];simp
 | some k =>
  obtain⟨hk,h1,_⟩:=List.findIdx?_eq_some_iff_getElem.1 h;have:l.any p=true:=by rw[List.any_eq_true];exact⟨_,List.getElem_mem hk,h1⟩
  rw[this];simp
theorem Zfw{w:World}{a:Option Addr}{n cap:Nat}{l:List Ev}(h:EvSl w a n cap l)(hn:n<=1000000)(F:Nat)(mo:Array Value)(p:Ev->Bool)(kH:∀ args W,(callFunc F args).run prog W = .ok (.enter F args) W)
  (eX:∀ W e,e∈l->Below w.heap.size w W->Calls prog F (#[Zaa e]++mo) W (Zv (.bool (p e)) W)) :
  Calls prog 216 #[.slice a n cap,.func (.func F) #[] mo] w (Zv (.bool (l.any p)) w):=by
 have H:=ZH (Zqm h hn F mo p kH eX);clear eX h kH;go_enter func216,ntmps216;go_wp2_with fail;refine H.out.mono ?_;rintro _ w3 ⟨rfl,bZ⟩;go_wp2
 go_ret;exact⟨by rw[←Zo0];rfl,bZ⟩
abbrev ZaM(k F:Nat):Array Value:=#[.int .i64 k,.func (.func F) #[] #[]]
theorem Blk.aR{w:World}{g:Nat}{t:TypeId}{v0 v1:Value}(h:Blk w g t #[v0,v1]):w.cell? ⟨g,0,none⟩=some v0/\w.cell? ⟨g,1,none⟩=some v1:=⟨h.cell 0,h.cell 1⟩
theorem Znc{w:World}{ps pe k F:Nat}{e:Ev}(hs:Blk w ps 295 (ZaM k F))(he:Blk w pe 89 (evArr e))(sm:Ev->Ev->Bool)(kH:∀ args W,(callFunc F args).run prog W = .ok (.enter F args) W)(cI:∀ a b W,Calls prog F #[Zaa a,Zaa b] W (Zv (.bool (sm a b)) W))(a:Ev)(hr:e.r<5):
  Calls prog 217 #[Zaa a,.pointer (some ⟨ps,0,none⟩),.pointer (some ⟨pe,0,none⟩)] w (Zv (.bool (decide (a.kind=k)&&sm a e&&e.below a)) w):=by
 have hx:=λ W=>cI a e W
 have hy:=λ W=>Zfm e a W hr
 have el:=(ZW w.heap.size w).alloc (ZL _) (.cells (evArr a) 89);have jF:=hs.ob el;have fl:=he.ob el;have HA:=ZH (ZBn w 89 (evArr a));obtain⟨s0,s1⟩:=jF.aR;obtain⟨e0,e1,e2,e3,e4,e5,e6,e7,e8,e9,iJ,ja⟩:=fl.ae;have Pj:=hs.lt;have fc:=he.lt;obtain⟨HE,HB⟩:=ZH2 fl el;clear hs he jF fl el cI;go_enter func217,ntmps217;by_cases hk:a.kind=k
 ·have cJ:((a.kind:Int)==(k:Int))=true:=by simp[hk]
  have lZ:=ZH hk;clear hk;go_wp2_with fail;refine(hx _).mono ?_;rintro _ w1 ⟨rfl,bS⟩;have oZ:=HE.out.ob bS;have nM:=HA.out.ob bS;obtain⟨e0,e1,e2,e3,e4,e5,e6,e7,e8,e9,iJ,ja⟩:=oZ.ae;obtain⟨a0,a1,a2,a3,a4,a5,a6,a7,a8,a9,rk,Kw⟩:=nM.ae;have A0:=nM.lt;have E6:=oZ.lt;have cL:=ZH (HB.out.trans (bS.mono ZM));clear bS oZ nM;rcases uh:sm a e with _ | _
  ·go_wp2
   go_ret;exact⟨by simp[uh],cL.out⟩
  ·go_wp2_with fail;refine(hy _).mono ?_;rintro _ w2 ⟨rfl,bW⟩;go_wp2
   go_ret;exact⟨by simp[uh,lZ.out],cL.out.trans (bW.mono cL.out.size)⟩
 ·have cJ:((a.kind:Int)==(k:Int))=false:=ZP;have lZ:=ZH hk;clear hk;go_wp2
  go_ret;exact⟨by simp[lZ.out],HB.out⟩
theorem ZgF{w:World}{k F:Nat}{e:Ev}(sm:Ev->Ev->Bool)(kH:∀ args W,(callFunc F args).run prog W = .ok (.enter F args) W)(cI:∀ a b W,Calls prog F #[Zaa a,Zaa b] W (Zv (.bool (sm a b)) W)){a:Option Addr}{n cap:Nat}{l:List Ev}(h:EvSl w a n cap l)(hn:n<=1000000)(hr:e.r<5):
  Calls prog 183 #[.agg (ZaM k F),.slice a n cap,Zaa e] w (Zv (.bool (l.any λ a=>decide (a.kind=k)&&sm a e&&e.below a)) w):=by
 have hS:=(ZBn w 295 (ZaM k F)).alloc (.cells (evArr e) 89);have hE:=Z6 w (.cells (ZaM k F) 295) 89 (evArr e);have nf:=Zbu w (.cells (ZaM k F) 295) (.cells (evArr e) 89);have hc:=Zfw (h.below nf) hn 217 #[.pointer (some ⟨w.heap.size,0,none⟩),.pointer (some ⟨w.heap.size+1,0,none⟩)] (λ a=>decide (a.kind=k)&&sm a e&&e.below a) (enters_of func217 ZK rfl)
  (λ W x hx hW=>Znc (hS.below hW ZP) (hE.below hW ZM) sm kH cI x (by first | exact hr | exact hr x hx))
 obtain⟨HC,HB⟩:=ZH2 hc nf;clear hS hE nf hc h cI kH;go_enter func183,ntmps183;go_wp2_with fail;refine HC.out.mono ?_;rintro _ w1 ⟨rfl,bS⟩;go_wp2
 go_ret;exact⟨rfl,HB.out.trans (bS.mono ZP)⟩
theorem Zni{w:World}{ps pe k F:Nat}{e:Ev}(hs:Blk w ps 295 (ZaM k F))(he:Blk w pe 89 (evArr e))(sm:Ev->Ev->Bool)(kH:∀ args W,(callFunc F args).run prog W = .ok (.enter F args) W)(cI:∀ a b W,Calls prog F #[Zaa a,Zaa b] W (Zv (.bool (sm a b)) W))(a:Ev)(hr:a.r<5):
  Calls prog 220 #[Zaa a,.pointer (some ⟨ps,0,none⟩),.pointer (some ⟨pe,0,none⟩)] w (Zv (.bool (decide (a.kind=k)&&sm a e&&a.below e)) w):=by
 have hx:=λ W=>cI a e W
 have hy:=λ W=>Zfm a e W hr
 have el:=(ZW w.heap.size w).alloc (ZL _) (.cells (evArr a) 89);have jF:=hs.ob el;have fl:=he.ob el;have HA:=ZH (ZBn w 89 (evArr a));obtain⟨s0,s1⟩:=jF.aR;obtain⟨e0,e1,e2,e3,e4,e5,e6,e7,e8,e9,iJ,ja⟩:=fl.ae;have Pj:=hs.lt;have fc:=he.lt;obtain⟨HE,HB⟩:=ZH2 fl el;clear hs he jF fl el cI;go_enter func220,ntmps220;by_cases hk:a.kind=k
 ·have cJ:((a.kind:Int)==(k:Int))=true:=by simp[hk]
  have lZ:=ZH hk;clear hk;go_wp2_with fail;refine(hx _).mono ?_;rintro _ w1 ⟨rfl,bS⟩;have oZ:=HE.out.ob bS;have nM:=HA.out.ob bS;obtain⟨e0,e1,e2,e3,e4,e5,e6,e7,e8,e9,iJ,ja⟩:=oZ.ae;obtain⟨a0,a1,a2,a3,a4,a5,a6,a7,a8,a9,rk,Kw⟩:=nM.ae;have A0:=nM.lt;have E6:=oZ.lt;have cL:=ZH (HB.out.trans (bS.mono ZM));clear bS oZ nM;rcases uh:sm a e with _ | _
  ·go_wp2
   go_ret;exact⟨by simp[uh],cL.out⟩
  ·go_wp2_with fail;refine(hy _).mono ?_;rintro _ w2 ⟨rfl,bW⟩;go_wp2
   go_ret;exact⟨by simp[uh,lZ.out],cL.out.trans (bW.mono cL.out.size)⟩
 ·have cJ:((a.kind:Int)==(k:Int))=false:=ZP;have lZ:=ZH hk;clear hk;go_wp2
  go_ret;exact⟨by simp[lZ.out],HB.out⟩
theorem ZkL{w:World}{k F:Nat}{e:Ev}(sm:Ev->Ev->Bool)(kH:∀ args W,(callFunc F args).run prog W = .ok (.enter F args) W)(cI:∀ a b W,Calls prog F #[Zaa a,Zaa b] W (Zv (.bool (sm a b)) W)){a:Option Addr}{n cap:Nat}{l:List Ev}(h:EvSl w a n cap l)(hn:n<=1000000)(hr:∀ x∈l,x.r<5):
  Calls prog 185 #[.agg (ZaM k F),.slice a n cap,Zaa e] w (Zv (.bool (l.any λ a=>decide (a.kind=k)&&sm a e&&a.below e)) w):=by
 have hS:=(ZBn w 295 (ZaM k F)).alloc (.cells (evArr e) 89);have hE:=Z6 w (.cells (ZaM k F) 295) 89 (evArr e);have nf:=Zbu w (.cells (ZaM k F) 295) (.cells (evArr e) 89);have hc:=Zfw (h.below nf) hn 220 #[.pointer (some ⟨w.heap.size,0,none⟩),.pointer (some ⟨w.heap.size+1,0,none⟩)] (λ a=>decide (a.kind=k)&&sm a e&&a.below e) (enters_of func220 ZK rfl)
  (λ W x hx hW=>Zni (hS.below hW ZP) (hE.below hW ZM) sm kH cI x (by first | exact hr | exact hr x hx))
 obtain⟨HC,HB⟩:=ZH2 hc nf;clear hS hE nf hc h cI kH;go_enter func185,ntmps185;go_wp2_with fail;refine HC.out.mono ?_;rintro _ w1 ⟨rfl,bS⟩;go_wp2
 go_ret;exact⟨rfl,HB.out.trans (bS.mono ZP)⟩
def ZbT(l:List Ev)(e:Ev):Bool:=decide (e.kind=1) && !(l.any λ a=>decide (a.kind=2)&&ZdS a e&&e.below a)
abbrev ZcJ(l:List Ev):List Ev:=l.filter (ZbT l)
theorem Zdz{α : Type}(p : α -> Bool)(l:List α)(e : α):(l++[e]).filter p=l.filter p++if p e=true then [e] else []:=by
 rw[List.filter_append];by_cases h:p e=true <;> simp[h]
theorem ZnM{w:World}{a:Option Addr}{n cap:Nat}{l:List Ev}(h:EvSl w a n cap l)(hn:n<=1000000)(hr:∀ x∈l,x.r<5):
  Calls prog 154 #[.slice a n cap] w (Zel (ZcJ l) w):=by
 have HL:=ZH (h.2.2.1);obtain⟨i0,hi,cM,cG,cK⟩:=info_parts Zbv;have cD:=(ZW w.heap.size w).alloc (ZL _) (.cells (ZaM 2 182) 295);obtain⟨HS,HE⟩:=ZH2 (ZBn w 295 (ZaM 2 182)) (h.below cD);have HW:Hid ((w.alloc (.cells (ZaM 2 182) 295)).heap.size=w.heap.size+1):=ZH (ZM);obtain⟨di,HR⟩:=ZH2 cD hr;clear h hr;go_enter func154,ntmps154;go_wp2_with fail;generalize w.alloc (.cells (ZaM 2 182) 295)=w1 at *;have HO:Hid (w1.ownsRow w1.heap.size 89 12 (.slice none 0 0) ((l.take 0).filter (ZbT l)).length (evCells ((l.take 0).filter (ZbT l)))):=ZH ⟨rfl,.inl ⟨rfl,rfl⟩⟩;have HK:=ZH (ZKr w1);clear cD;go_loopw [4,10] (λ v i wr=>∃ q:Nat,q<=n/\i = .int .i64 q/\Hid (wr.ownsRow w1.heap.size 89 12 v ((l.take q).filter (ZbT l)).length (evCells ((l.take q).filter (ZbT l))))/\Hid (Kept w1.heap.size w1 wr)) (λ _ i _=>n-(intOf i).toNat)
 case atStart=>exact⟨0,Nat.zero_le _,rfl,HO,HK⟩
 case round =>
  clear HO HK;obtain⟨q,hq,rfl,HO,HK⟩:=hrel;by_cases dy:q<n
  ·obtain⟨e,he⟩:∃ e,l[q]? = some e:=⟨_,ZX (by rw[HL.out];exact dy)⟩;have hs:=HE.out.of_same (w':=wr) (λ ad _ hl=>HK.out.below.block _ hl) HK.out.le;have fx:=hs;obtain⟨bk,off,rfl,cQ,c0,c1,c2,c3,c4,c5,c6,c7,c8,c9,cP,cR⟩:=hs.at_ he;have it:=Zdz (ZbT l) (l.take q) e;rw[←Zag he] at it;have rt:((l.take q).filter (ZbT l)).length<=1000000:=by
    have h1:=List.length_filter_le (ZbT l) (l.take q);rw[ZV] at h1;omega
   obtain⟨aa,eV,rfl,_⟩:=EvSl.ab HO.out;have cJ:=HK.out.alloc (.cells (evArr e) 89);have fk:=(ZW wr.heap.size wr).alloc (ZL _) (.cells (evArr e) 89);obtain⟨jG,mS⟩:=ZH2 (Ze HO.out fk) (ZBn wr 89 (evArr e));have mq:Blk (wr.alloc (.cells (evArr e) 89)) w.heap.size 295 (ZaM 2 182):=HS.out.below cJ.below HS.out.lt;have I3:=ZH (ZgF (e:=e) (k:=2) ZdS (enters_of func182 ZK rfl) (λ a b W=>ZfA a b W) (fx.below fk) hn (HR.out e (ZY he)));obtain⟨s0,s1⟩:=mq.aR;have Pj:=mq.lt;obtain⟨eI,cr⟩:=ZH2 it cJ;clear hs fx he it cJ fk mq;by_cases dE:e.kind=1
   ·have kU:((e.kind:Int)==1)=true:=by simp[dE]
    have cE:=ZH dE;clear dE;go_wp2_with fail;refine I3.out.mono ?_;rintro _ w3 ⟨rfl,bZ⟩;have jI:=mS.out.ob bZ;obtain⟨x0,x1,x2,x3,x4,x5,x6,x7,x8,x9,eE,eG⟩:=jI.ae;have kJ:=jI.lt;obtain⟨cC,gV⟩:=ZH2 (cr.out.step bZ) (Ze jG.out bZ);clear bZ jI;rcases gn:(l.any λ a=>decide (a.kind=2)&&ZdS a e&&e.below a) with _ | _
    ·have hp:ZbT l e=true:=by simp[ZbT,cE.out,gn]
     rw[if_pos hp] at eI;have dr:=cC.out.alloc (.cells (evArr e) 89);have dt:=ZH (Ze gV.out ((ZW w3.heap.size w3).alloc (ZL _) (.cells (evArr e) 89)));have dQ:=dr.le;have cZ:=ZH dr;clear dr;go_wp2_with (at_builtin;refine Zc _ rfl (.tmp 24) (.tmp 26) _ rfl w1.heap.size 89 i0 _ 12 112 underlying128 hi cM cG cK rfl ZO (.slice aa ((l.take q).filter (ZbT l)).length eV) ((l.take q).filter (ZbT l)).length (evCells ((l.take q).filter (ZbT l))) rfl dt.out (w3.heap.size+1) (some ⟨w3.heap.size,0,none⟩) 1 1 (evArr e).toList rfl (ZbN w3 e) (ZaK e) ZF ZO dQ ?_;intro v7 w7 bX cN dP)
     have gM:w7.ownsRow w1.heap.size 89 12 v7 ((l.take (q+1)).filter (ZbT l)).length (evCells ((l.take (q+1)).filter (ZbT l))):=by rw[eI.out];exact RowE.snoc bX
     have fd:Hid (Kept w1.heap.size w1 w7):=ZH (⟨cZ.out.below.grown cN cZ.out.le (λ g hg=>(Zb dt.out hg).1),ZT cZ.out.le cN.size⟩);have gW:=ZH gM;go_wp2
     go_roundw
     case rel=>exact⟨q+1,ZO,ZN,gW,fd⟩
     case measure=>simp[intOf];omega
    ·have hp:¬ ZbT l e=true:=by simp[ZbT,gn]
     rw[if_neg hp,List.append_nil] at eI;go_wp2
     go_roundw
     case rel=>exact⟨q+1,ZO,ZN,by rw[eI.out];exact gV,cC⟩
     case measure=>simp[intOf];omega
   ·have kU:((e.kind:Int)==1)=false:=ZP;have hp:¬ ZbT l e=true:=by simp[ZbT,dE]
    rw[if_neg hp,List.append_nil] at eI;clear dE;go_wp2
    go_roundw
    case rel=>exact⟨q+1,ZO,ZN,by rw[eI.out];exact jG,cr⟩
    case measure=>simp[intOf];omega
  ·obtain rfl:q=n:=ZO;have gh:l.take q=l:=ZU (by rw[HL.out];exact ZL _);rw[gh] at HO;obtain⟨aa,eV,rfl,_⟩:=EvSl.ab HO.out;have oS:=di.out.size;go_wp2
   go_ret;exact⟨_,rfl,Zi HO.out oS,di.out.trans (HK.out.below.mono oS)⟩
def ZbP(cs:List Ev)(e:Ev):Bool:=cs.any λ a=>decide (a.kind=1)&&ZdS a e&&a.below e
def ZfN(l:List Ev)(e:Ev):Bool:=l.any λ a=>decide (a.kind=5)&&ZdC a e&&e.below a
def ZeY(l cs:List Ev)(e:Ev):Bool:=if e.kind=3 then ZbP cs e else if e.kind=4 then ZbP cs e && !(ZfN l e) else false
def ZcQ(l cs:List Ev):List Ev:=l.filter (ZeY l cs)
theorem Zk4{w:World}{a:Option Addr}{n cap:Nat}{l:List Ev}(h:EvSl w a n cap l)(hn:n<=1000000)(hr:∀ x∈l,x.r<5){ac:Option Addr}{nc DU:Nat}{cs:List Ev}(hc:EvSl w ac nc DU cs)(eH:nc<=1000000)(FT:∀ x∈cs,x.r<5):
  Calls prog 155 #[.slice a n cap,.slice ac nc DU] w (Zel (ZcQ l cs) w):=by
 obtain⟨p,im⟩:∃ p:Ev->Bool,p=ZeY l cs:=⟨_,rfl⟩;have e9:ZcQ l cs=l.filter p:=by rw[im];rfl
 rw[e9];have HP:=ZH im;clear im e9;have HL:=ZH (h.2.2.1);obtain⟨i0,hi,cM,cG,cK⟩:=info_parts Zbv;have cD:=Zbu w (.cells (ZaM 1 182) 295) (.cells (ZaM 5 184) 295);obtain⟨HS,HT,HE,HC,di,HR,J6⟩:=ZH7 ((ZBn w 295 (ZaM 1 182)).alloc (.cells (ZaM 5 184) 295)) (Z6 w (.cells (ZaM 1 182) 295) 295 (ZaM 5 184)) (h.below cD) (hc.below cD) cD hr FT;clear h hr hc FT;go_enter func155,ntmps155;go_wp2_with fail;generalize (w.alloc (.cells (ZaM 1 182) 295)).alloc (.cells (ZaM 5 184) 295)=w2 at *;have HO:Hid (w2.ownsRow w2.heap.size 89 12 (.slice none 0 0) ((l.take 0).filter p).length (evCells ((l.take 0).filter p))):=ZH ⟨rfl,.inl ⟨rfl,rfl⟩⟩;have HK:=ZH (ZKr w2);clear cD;go_loopw [7,14] (λ v i wr=>∃ q:Nat,q<=n/\i = .int .i64 q/\Hid (wr.ownsRow w2.heap.size 89 12 v ((l.take q).filter p).length (evCells ((l.take q).filter p)))/\Hid (Kept w2.heap.size w2 wr)) (λ _ i _=>n-(intOf i).toNat)
 case atStart=>exact⟨0,Nat.zero_le _,rfl,HO,HK⟩
 case round =>
  clear HO HK;obtain⟨q,hq,rfl,HO,HK⟩:=hrel;by_cases dy:q<n
  ·obtain⟨e,he⟩:∃ e,l[q]? = some e:=⟨_,ZX (by rw[HL.out];exact dy)⟩;have hs:=HE.out.of_same (w':=wr) (λ ad _ hl=>HK.out.below.block _ hl) HK.out.le;have fx:=hs;obtain⟨bk,off,rfl,cQ,c0,c1,c2,c3,c4,c5,c6,c7,c8,c9,cP,cR⟩:=hs.at_ he;have it:=Zdz p (l.take q) e;rw[←Zag he] at it;have rt:((l.take q).filter p).length<=1000000:=by
    have h1:=List.length_filter_le p (l.take q);rw[ZV] at h1;omega
   obtain⟨aa,eV,rfl,_⟩:=EvSl.ab HO.out;have cJ:=HK.out.alloc (.cells (evArr e) 89);have fk:=(ZW wr.heap.size wr).alloc (ZL _) (.cells (evArr e) 89);obtain⟨jG,mS⟩:=ZH2 (Ze HO.out fk) (ZBn wr 89 (evArr e));have ql:Blk (wr.alloc (.cells (evArr e) 89)) w.heap.size 295 (ZaM 1 182):=HS.out.below cJ.below HS.out.lt;have dd:Blk (wr.alloc (.cells (evArr e) 89)) (w.heap.size+1) 295 (ZaM 5 184):=HT.out.below cJ.below HT.out.lt;have xt:=ZH (ZkL (e:=e) (k:=1) ZdS (enters_of func182 ZK rfl) (λ a b W=>ZfA a b W) (HC.out.below cJ.below) eH J6.out);have FW:=λ W (hW:Below (wr.alloc (.cells (evArr e) 89)).heap.size (wr.alloc (.cells (evArr e) 89)) W)=>ZgF (e:=e) (k:=5) ZdC (enters_of func184 ZK rfl) (λ a b W=>Zi6 a b W) ((fx.below fk).below hW) hn (HR.out e (ZY he))
   obtain⟨y0,y1⟩:=ql.aR;obtain⟨z0,z1⟩:=dd.aR;have yB:=ql.lt;have oI:=dd.lt;obtain⟨eI,cr,pi,cH,Rv⟩:=ZH5 it cJ ql dd FW;clear hs fx he it cJ fk ql dd FW;by_cases h3:e.kind=3
   ·have b3:((e.kind:Int)==3)=true:=by simp[h3]
    have rJ:p e=ZbP cs e:=by rw[HP.out];simp[ZeY,h3]
    rw[rJ] at eI;clear h3 rJ;go_wp2_with fail;refine xt.out.mono ?_;rintro _ w3 ⟨rfl,bZ⟩;clear y0 y1 z0 z1 yB oI;have jI:=mS.out.ob bZ;have vN:=pi.out.ob bZ;have fg:=cH.out.ob bZ;obtain⟨x0,x1,x2,x3,x4,x5,x6,x7,x8,x9,eE,eG⟩:=jI.ae;obtain⟨y0,y1⟩:=vN.aR;obtain⟨z0,z1⟩:=fg.aR;have kJ:=jI.lt;have yB:=vN.lt;have oI:=fg.lt;obtain⟨cC,gV,qc,BL,dj,Cw⟩:=ZH6 (cr.out.step bZ) (Ze jG.out bZ) jI vN fg bZ;clear bZ jI vN fg;rcases gn:ZbP cs e with _ | _
    ·rw[gn,if_neg ZM,List.append_nil] at eI;unfold ZbP at gn;rw[gn];go_wp2
     go_roundw
     case rel=>exact⟨q+1,ZO,ZN,by rw[eI.out];exact gV,cC⟩
     case measure=>simp[intOf];omega
    ·rw[gn,if_pos rfl] at eI;unfold ZbP at gn;rw[gn];have dr:=cC.out.alloc (.cells (evArr e) 89);have gL:=Ze gV.out ((ZW w3.heap.size w3).alloc (ZL _) (.cells (evArr e) 89));have dQ:=dr.le;obtain⟨cZ,dt⟩:=ZH2 dr gL;clear dr gL;go_wp2_with (at_builtin;refine Zc _ rfl (.tmp 26) (.tmp 28) _ rfl w2.heap.size 89 i0 _ 12 112 underlying128 hi cM cG cK rfl ZO (.slice aa ((l.take q).filter p).length eV) ((l.take q).filter p).length (evCells ((l.take q).filter p)) rfl dt.out (w3.heap.size+1) (some ⟨w3.heap.size,0,none⟩) 1 1 (evArr e).toList rfl (ZbN w3 e) (ZaK e) ZF ZO dQ ?_;intro v7 w7 bX cN dP)
     have gM:w7.ownsRow w2.heap.size 89 12 v7 ((l.take (q+1)).filter p).length (evCells ((l.take (q+1)).filter p)):=by rw[eI.out];exact RowE.snoc bX
     have ik:Kept w2.heap.size w2 w7:=⟨cZ.out.below.grown cN cZ.out.le (λ g hg=>(Zb dt.out hg).1),ZT cZ.out.le cN.size⟩;obtain⟨gW,fd⟩:=ZH2 gM ik;go_wp2
     go_roundw
     case rel=>exact⟨q+1,ZO,ZN,gW,fd⟩
     case measure=>simp[intOf];omega
   ·have b3:((e.kind:Int)==3)=false:=ZP;by_cases h4:e.kind=4
    ·have b4:((e.kind:Int)==4)=true:=by simp[h4]
     have rJ:p e=(ZbP cs e && !(ZfN l e)):=by rw[HP.out];simp[ZeY,h4]
     rw[rJ] at eI;clear h3 h4 rJ;go_wp2_with fail;refine xt.out.mono ?_;rintro _ w3 ⟨rfl,bZ⟩;clear y0 y1 z0 z1 yB oI;have jI:=mS.out.ob bZ;have vN:=pi.out.ob bZ;have fg:=cH.out.ob bZ;obtain⟨x0,x1,x2,x3,x4,x5,x6,x7,x8,x9,eE,eG⟩:=jI.ae;obtain⟨y0,y1⟩:=vN.aR;obtain⟨z0,z1⟩:=fg.aR;have kJ:=jI.lt;have yB:=vN.lt;have oI:=fg.lt;obtain⟨cC,gV,qc,BL,dj,Cw⟩:=ZH6 (cr.out.step bZ) (Ze jG.out bZ) jI vN fg bZ;clear bZ jI vN fg;rcases gn:ZbP cs e with _ | _
     ·rw[gn,Bool.false_and,if_neg ZM,List.append_nil] at eI;unfold ZbP at gn;rw[gn];go_wp2
      go_roundw
      case rel=>exact⟨q+1,ZO,ZN,by rw[eI.out];exact gV,cC⟩
      case measure=>simp[intOf];omega
     ·rw[gn,Bool.true_and] at eI;unfold ZbP at gn;rw[gn];have FW:=Rv.out w3 Cw.out;have J9:=ZH FW;clear FW;go_wp2_with fail;refine J9.out.mono ?_;rintro _ w5 ⟨rfl,dw⟩;clear x0 x1 x2 x3 x4 x5 x6 x7 x8 x9 eE eG y0 y1 z0 z1 kJ yB oI;have pF:=qc.out.ob dw;have Il:=BL.out.ob dw;have oX:=dj.out.ob dw;obtain⟨x0,x1,x2,x3,x4,x5,x6,x7,x8,x9,eE,eG⟩:=pF.ae;obtain⟨y0,y1⟩:=Il.aR;obtain⟨z0,z1⟩:=oX.aR;have kJ:=pF.lt;have yB:=Il.lt;have oI:=oX.lt;obtain⟨fi,qY,BM,HA5,kC,HBL5⟩:=ZH6 (cC.out.step dw) (Ze gV.out dw) pF Il oX dw;clear dw pF Il oX;rcases lR:ZfN l e with _ | _
      ·rw[lR,Bool.not_false,if_pos rfl] at eI;unfold ZfN at lR;rw[lR];have dr:=fi.out.alloc (.cells (evArr e) 89);have gL:=Ze qY.out ((ZW w5.heap.size w5).alloc (ZL _) (.cells (evArr e) 89));have dQ:=dr.le;obtain⟨cZ,dt⟩:=ZH2 dr gL;clear dr gL;go_wp2_with (at_builtin;refine Zc _ rfl (.tmp 43) (.tmp 45) _ rfl w2.heap.size 89 i0 _ 12 112 underlying128 hi cM cG cK rfl ZO (.slice aa ((l.take q).filter p).length eV) ((l.take q).filter p).length (evCells ((l.take q).filter p)) rfl dt.out (w5.heap.size+1) (some ⟨w5.heap.size,0,none⟩) 1 1 (evArr e).toList rfl (ZbN w5 e) (ZaK e) ZF ZO dQ ?_;intro v7 w7 bX cN dP)
       have gM:w7.ownsRow w2.heap.size 89 12 v7 ((l.take (q+1)).filter p).length (evCells ((l.take (q+1)).filter p)):=by rw[eI.out];exact RowE.snoc bX
       have ik:Kept w2.heap.size w2 w7:=⟨cZ.out.below.grown cN cZ.out.le (λ g hg=>(Zb dt.out hg).1),ZT cZ.out.le cN.size⟩;obtain⟨gW,fd⟩:=ZH2 gM ik;go_wp2
       go_roundw
       case rel=>exact⟨q+1,ZO,ZN,gW,fd⟩
       case measure=>simp[intOf];omega
      ·rw[lR,Bool.not_true,if_neg ZM,List.append_nil] at eI;unfold ZfN at lR;rw[lR];go_wp2
       go_roundw
       case rel=>exact⟨q+1,ZO,ZN,by rw[eI.out];exact qY,fi⟩
       case measure=>simp[intOf];omega
    ·have b4:((e.kind:Int)==4)=false:=ZP;have rJ:p e=false:=by rw[HP.out];simp[ZeY,h3,h4]
     rw[rJ,if_neg ZM,List.append_nil] at eI;clear h3 h4 rJ;go_wp2
     go_roundw
     case rel=>exact⟨q+1,ZO,ZN,by rw[eI.out];exact jG,cr⟩
     case measure=>simp[intOf];omega
  ·obtain rfl:q=n:=ZO;have gh:l.take q=l:=ZU (by rw[HL.out];exact ZL _);rw[gh] at HO;obtain⟨aa,eV,rfl,_⟩:=EvSl.ab HO.out;have oS:=di.out.size;go_wp2
   go_ret;exact⟨_,rfl,Zi HO.out oS,di.out.trans (HK.out.below.mono oS)⟩
end Go.Proofs.YtjkfognelhiepaaGreat
