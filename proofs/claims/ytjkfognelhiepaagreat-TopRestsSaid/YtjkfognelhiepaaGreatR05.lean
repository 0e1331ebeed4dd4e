import Derived.Test.YtjkfognelhiepaaGreatR03
import Derived.Great.Walk
import Derived.Shelf.SlGeneric
import Derived.Shelf.Sort.Plain
import Derived.Shelf.Slices.CompactS
import Derived.Shelf.Slices.In.SortNone
import Derived.Shelf.SlIter.Nil
import Derived.Shelf.SortM.Plain
import Derived.Shelf.SortM.SortNone
import Derived.Ground.GgzProg
import Derived.Ground.SlgmProg
import Derived.Sort.OwnSorted
import Derived.Lib.OwnBridge
import Derived.Laws.EntriesVeiled
namespace Go.Proofs.YtjkfognelhiepaaGreat
open Go.RowKit _root_.Go.Proofs.Tryz
open Value renaming slice→S_,int→I_,bool→B_,string→T_,pointer→P_
open IntKind renaming i64→J_
open Obj renaming cells→C_
open Ending renaming returned→R_
set_option maxRecDepth 100000
set_option maxHeartbeats 8000000
variable{F cap g k n:Nat}{a:Option Addr}{e:Ev}{l:List Ev}{t:TypeId}{v:Value}{w:World}
section
variable {P:Program}
theorem Zat{cQ:Array Oper}{rest:List Oper}{o:Oper}{a:Act}{Q:Exit->Act->World->Prop}(hg:o.guard=none)(t:TypeId)(parts:Array (Nat×Operand))(ho:o.op=.build t parts)(cells:Array Value)
  (hf:P.built t (parts.map λ(i,x)=>(i,a.eval x)).toList=some cells) (h:wpList P cQ Q rest (a.put o.dst (.agg cells)) w):wpList P cQ Q (o::rest) a w :=
 wpList_plain hg λ_ hK=>by
  refine wp_build t parts ho (by rw[hf];rfl) ?_;rw[hf];exact hK _ _ h
theorem ZS{cQ:Array Oper}{rest:List Oper}{o:Oper}{a:Act}{Q:Exit->Act->World->Prop}(hg:o.guard=none)(t:TypeId)(ho:o.op=.alloc t)(z:Array Value)
  (hz:(P.info? t).map (λi=>i.zero)=some (some (.agg z))) (h:wpList P cQ Q rest (a.put o.dst (P_ (some ⟨w.heap.size,0,none⟩))) (w.alloc (C_ z t))):wpList P cQ Q (o::rest) a w:=by
 cases hq:P.info? t with
 |none=>simp[hq]at hz
 |some i =>
  have pX:i.zero=some (.agg z):=by simpa [hq] using hz
  refine Go.Great.wpList_runTo hg o.dst rfl _ _ ?_ h;unfold execOp;simp[ho,Instr.alloc,zeroValue,typeInfo,hq,pX,newVar,Value.cells,newRow]
end
def Zbp(told:List Clk):List Clk:=told++List.replicate (5-told.length) ZCz
abbrev Zt(up:Bool)(b l:Clk)(acks:List Clk):Array Value:=#[B_ up,I_ J_ b.c0,I_ J_ b.c1,I_ J_ b.c2,I_ J_ b.c3,I_ J_ b.c4,I_ J_ l.c0,I_ J_ l.c1,I_ J_ l.c2,I_ J_ l.c3,I_ J_ l.c4]++(clkCells acks).toArray
def Zbw(up:Bool)(b l:Clk)(acks:List Clk):Value := .agg (Zt up b l acks)
def Zdw(sh:List Sh):Clk:=Zcl (λs=>s.base) sh sh.length
def lenOf(sh:List Sh):Clk:=Zcl (λs=>s.base+s.kept.length) sh sh.length
theorem Zcs(up:Bool)(b l:Clk)(acks:List Clk):(Zt up b l acks).size=11+acks.length*5:=by
 simp[Zt,ZcE];omega
theorem ZhK(l:List Clk):∀u∈clkCells l,u.oneCell'=true:=by
 intro u hu;obtain⟨c,_,hc⟩:=List.mem_flatMap.1 hu;simp at hc;rcases hc with rfl|rfl|rfl|rfl|rfl <;> rfl
theorem Zdy(up:Bool)(b l:Clk)(acks:List Clk):(Zt up b l acks).all (·.oneCell')=true:=by
 rw[Array.all_eq_true_iff_forall_mem];intro v hv;rw[Array.mem_append]at hv;rcases hv with hv|hv
 ·simp at hv;rcases hv with rfl|rfl|rfl|rfl|rfl|rfl|rfl|rfl|rfl|rfl|rfl <;> rfl
 ·exact ZhK acks v (by simpa using hv)
theorem Zdm{told:List Clk}(h:told.length<=5):(Zbp told).length=5:=by
 unfold Zbp;rw[ZI,List.length_replicate];omega
theorem Zr9:(prog.info? 56).map (λi=>i.size)=some 36:=ZK
theorem ZbU(up:Bool)(b l:Clk){acks:List Clk}(h:acks.length=5):(prog.info? 56).map (λi=>i.size)=some (Zt up b l acks).size:=by
 rw[Zcs,h];exact Zr9
theorem Reads.aA{sz:Nat}{xs:List Value}(h:Blk w g t xs.toArray)(hl:xs.length=n*sz):Reads w w.heap.size sz (some ⟨g,0,none⟩) n xs:=by
 refine⟨hl,λ_=>⟨_,rfl,h.lt,λj u hu=>?_⟩⟩;have e:(⟨g,0,none⟩:Addr).add j=⟨g,j,none⟩:=by unfold Addr.add;split <;> simp_all
 rw[e,h.cell];simpa using hu
theorem ZjB(a b:List Clk):clkCells (a++b)=clkCells a++clkCells b:=by simp[clkCells]
theorem Zr8(b l:Clk){told:List Clk}(h:told.length<=5)(hb:Blk w g t (Zt true b l (List.replicate 5 ZCz))):Blk (setAll w g 11 (clkCells told)) g t (Zt true b l (Zbp told)):=by
 have hl:(clkCells told).length=told.length*5:=ZcE told
 have h1:=Zbr (clkCells told) 11 w (Zt true b l (List.replicate 5 ZCz)).toList (by simpa using hb) (by
  have hA:(Zt true b l (List.replicate 5 ZCz)).toList.length=36:=by rw[Array.length_toList,Zcs,List.length_replicate]
  rw[hA,hl]
  omega)
 have h2:((Zt true b l (List.replicate 5 ZCz)).toList.take 11++clkCells told++(Zt true b l (List.replicate 5 ZCz)).toList.drop (11+(clkCells told).length)).toArray=Zt true b l (Zbp told):=by
  rw[hl];have e:clkCells (Zbp told)=clkCells told++clkCells (List.replicate (5-told.length) ZCz):=ZjB _ _;unfold Zt;rw[e];have hn:told.length=0∨told.length=1∨told.length=2∨told.length=3∨told.length=4∨told.length=5:=ZO;generalize clkCells told=X;rcases hn with hn|hn|hn|hn|hn|hn
  all_goals
   rw[hn];apply Array.toList_inj.1;simp[clkCells,List.replicate]
 rw[h2]at h1;exact h1
theorem Zqc(b0 b1 b2 b3 b4 l0 l1 l2 l3 l4:Value):prog.built 56 [(0,B_ true),(1,.agg #[b0,b1,b2,b3,b4]),(2,.agg #[l0,l1,l2,l3,l4])]=some (#[B_ true,b0,b1,b2,b3,b4,l0,l1,l2,l3,l4]++(clkCells (List.replicate 5 ZCz)).toArray):=by
 kernel_rfl
structure Cfg where
 n:Nat
 w:Nat
 q:Nat
 h:Nat
 l:Nat
 p:Nat
structure Cfg.Ok(c:Cfg):Prop where
 n1:1<=c.n
 n5:c.n<=5
 w1:1<=c.w
 w4:c.w<=4
 q1:1<=c.q
 q8:c.q<=8
 h1:1<=c.h
 h20:c.h<=20
 l1:1<=c.l
 l4:c.l<=4
 p1:1<=c.p
 p3:c.p<=3
abbrev cfgArr(c:Cfg):Array Value:=#[I_ J_ c.n,I_ J_ c.w,I_ J_ c.q,I_ J_ c.h,I_ J_ c.l,I_ J_ c.p]
abbrev Zd1(c:Cfg):Value := .agg (cfgArr c)
theorem Blk.aR{v0 v1 v2 v3 v4 v5:Value}(h:Blk w g t #[v0,v1,v2,v3,v4,v5]):w.cell? ⟨g,0,none⟩=some v0/\w.cell? ⟨g,1,none⟩=some v1/\w.cell? ⟨g,2,none⟩=some v2/\w.cell? ⟨g,3,none⟩=some v3/\w.cell? ⟨g,4,none⟩=some v4/\w.cell? ⟨g,5,none⟩=some v5 :=
 ⟨h.cell 0,h.cell 1,h.cell 2,h.cell 3,h.cell 4,h.cell 5⟩
theorem Zt1:(prog.info? 44).map (λi=>(i.zero,i.size,i.bytes))=some (some (.agg (clkArr ZCz)),5,40):=ZK
theorem Zsd:(prog.info? 244).map (λi=>(i.zero,i.size,i.bytes))=some (some (P_ none),1,8):=ZK
theorem Znc(m:Nat)(hm:m<=5)(w:World):(Instr.makeSlice 240 (I_ J_ (m:Int)) (I_ J_ (m:Int))).run prog w=.ok (S_ (some ⟨w.heap.size,0,none⟩) m m) (w.alloc (C_ (clkCells (List.replicate m ZCz)).toArray 44)):=by
 obtain⟨i0,hi,dd,cV,dc⟩:=info_parts Zt1;have h:=run_makeSlice (P:=prog) (w:=w) 240 44 i0 (.agg (clkArr ZCz)) underlying240 hi dd .i64 .i64 (m:Int) (m:Int) ZO (Int.le_refl _) (by rw[cV];omega) (by rw[dc];omega) ZO;rw[cV]at h;simp only[Int.toNat_natCast]at h;rw[h];have e:madeCells (clkArr ZCz) (m*5)=(clkCells (List.replicate m ZCz)).toArray:=by
  rcases(by omega:m=0∨m=1∨m=2∨m=3∨m=4∨m=5) with rfl|rfl|rfl|rfl|rfl|rfl <;> kernel_rfl
 show Result.ok _ (w.alloc (C_ (madeCells (clkArr ZCz) (m*5)) _))=_
 rw[e]
structure PostPart(own:Own)(t:Nat)(w:World)(p gt most N:Nat)(k:Nat)(v:Value):Prop where
 mine:own p=t
 blk:Blk w p 243 #[v,S_ (some ⟨gt,0,none⟩) N N]
 gown:own gt=t
 told:Blk w gt 44 (clkCells (List.replicate N ZCz)).toArray
 ex:∃ps:List Nat,ps.length=k/\w.ownsRow 0 244 1 v k (ps.map λq => P_ (some ⟨q,0,none⟩))/\(∀g,v.ownBlock=some g->own g=t)/\∀i q,ps[i]? = some q->ShelfAt own (t+1+i) w q most 0 []
theorem Upd.az{T:Nat->Prop}{own own':Own}{w1:World}(h:Upd T own own' w w1)(h1:w.heap.size<=g)(h2:g<w1.heap.size)(t:Nat):Upd T own (own'.at_ g t) w w1 :=
 ⟨h.os,h.tape,h.output,h.size,λb hb=>by
  unfold Own.at_;rw[ZPn ZO];exact h.old b hb,h.same,λb hb=>by
  unfold Own.at_;rw[ZPn ZO]
  exact h.fresh b hb⟩
theorem Zsx{own:Own}{t:Nat}(c:Cfg)(hc:c.Ok)(hf:Fresh own w):
  Calls prog 87 #[Zd1 c] w λrr w'=>∃p own',rr=R_ (P_ (some ⟨p,0,none⟩))/\w.heap.size<=p/\PostAt own' t w' p c.w (List.replicate c.n ⟨0,[]⟩) (List.replicate c.n ZCz)/\Upd (· = t) own own' w w':=by
 have n1:=hc.n1;have n5:=hc.n5;have gi:¬((0:Int)>(c.n:Int)):=ZO;have D4:∀w ts ty,(Builtin.max_ ts ty #[I_ J_ (c.n:Int),I_ J_ 0]).run prog w=.ok (I_ J_ (c.n:Int)) w:=by
  intro w ts ty;rw[run_max_int2,ZPn gi]
 have VZ:∀w ts ty,(Builtin.min_ ts ty #[I_ J_ (c.n:Int),I_ J_ 5]).run prog w=.ok (I_ J_ (c.n:Int)) w:=by
  intro w ts ty;rw[run_min_int2,ZPn ZO]
 have j6:=Znc c.n hc.n5 (w.alloc (C_ (cfgArr c) 23));have HF:=ZH hf;clear hf gi;go_enter func87,ntmps87;go_wp2_with fail;have cP:=ZBn w 23 (cfgArr c);have uA:=(((ZKr w).alloc (C_ (cfgArr c) 23)).alloc (C_ (clkCells (List.replicate c.n ZCz)).toArray 44)).alloc (C_ #[S_ none 0 0,S_ (some ⟨w.heap.size+1,0,none⟩) c.n c.n] 243);have HC:=ZH ((cP.alloc (C_ (clkCells (List.replicate c.n ZCz)).toArray 44)).alloc (C_ #[S_ none 0 0,S_ (some ⟨w.heap.size+1,0,none⟩) c.n c.n] 243));have Ke:=(Zag w (C_ (cfgArr c) 23) 44 (clkCells (List.replicate c.n ZCz)).toArray).alloc (C_ #[S_ none 0 0,S_ (some ⟨w.heap.size+1,0,none⟩) c.n c.n] 243);have NS:=ZBn ((w.alloc (C_ (cfgArr c) 23)).alloc (C_ (clkCells (List.replicate c.n ZCz)).toArray 44)) 243 #[S_ none 0 0,S_ (some ⟨w.heap.size+1,0,none⟩) c.n c.n];have e2:((w.alloc (C_ (cfgArr c) 23)).alloc (C_ (clkCells (List.replicate c.n ZCz)).toArray 44)).heap.size=w.heap.size+1+1:=ZM;rw[e2]at NS;have HU:Hid (Upd (· = t) own ((own.at_ (w.heap.size+1) t).at_ (w.heap.size+1+1) t) w _):=ZH (((ZUb (T:=(· = t)) uA.below HF.out).az (g:=w.heap.size+1) ZO ZM t).az (g:=w.heap.size+1+1) ZO ZM t);have BM:PostPart ((own.at_ (w.heap.size+1) t).at_ (w.heap.size+1+1) t) t _ (w.heap.size+1+1) (w.heap.size+1) c.w c.n 0 (S_ none 0 0) :=
  ⟨by unfold Own.at_;simp,NS,by unfold Own.at_;simp,Ke,[],rfl,⟨rfl,.inl ⟨rfl,rfl⟩⟩,λg h=>by(cases h),λi q h=>by simp at h⟩
 have iY:=ZH BM;clear cP uA Ke NS e2 BM j6;obtain⟨i0,hi,dd,cV,dc⟩:=info_parts Zsd;go_loopw [14] (λi wr=>∃(k:Nat) (iW:Own) (v:Value),k<=c.n/\i=I_ J_ k/\Hid (Blk wr w.heap.size 23 (cfgArr c))/\Hid (PostPart iW t wr (w.heap.size+1+1) (w.heap.size+1) c.w c.n k v)/\Hid (Upd (· = t) own iW w wr)) (λi _=>c.n-(intOf i).toNat)
 case atStart=>exact⟨0,_,_,ZO,rfl,HC,iY,HU⟩
 case round =>
  skip
  obtain⟨k,iW,v,i6,rfl,HC,iY,HU⟩:=hrel;obtain⟨d0,d1,d2,d3,d4,d5⟩:=HC.out.aR;have CA:=HC.out.lt;obtain⟨a0,a1⟩:=iY.out.blk.two;have G9:=iY.out.blk.lt;by_cases gh:k<c.n
  ·have kn:(k:Int)<(c.n:Int):=ZO;obtain⟨pp,hl,cT,dk,im⟩:=iY.out.ex;have IZ:∃a cap,v=S_ a k cap:=by
    rcases cT.2 with ⟨h1,h2⟩|⟨g,cap,_,h1,_⟩
    ·subst h2;exact⟨none,0,h1⟩
    ·exact⟨_,cap,h1⟩
   obtain⟨HR,HO,HS,EN⟩:=ZH4 cT dk im hl;clear cT dk im hl;obtain⟨aa,fC,rfl⟩:=IZ;go_wp2_with fail;refine ZSi [(0,3),(1,3),(2,0),(3,3),(4,0),(5,3),(6,0),(7,1),(8,1),(9,2),(10,3),(11,3),(12,2)] λcu=>?_
   repeat((first|refine ZSa ?_|refine ZSb ?_|refine ZSc ?_);simp only[Act.put,Q_])
   refine ZSd λK hK=>?_
   go_simp;refine(Zrr c.w _).mono ?_;rintro _ w2 ⟨rfl,hq,cD⟩;have cX:=cu.step cD;have HQ:Hid (Blk w2 wr.heap.size 281 (shelfArr c.w 0 (S_ none 0 0))):=ZH hq;have cO:=ZH cX;refine hK.out (λw'=>Kept w2.heap.size w2 w') _ _ (λ_ h=>cX.trans h cX.le) (ZKr w2) (λcA=>?_);clear hK K cu hq cD cX;repeat((first|refine ZSa ?_|refine ZSb ?_|refine ZSc ?_);simp only[Act.put,Q_])
   refine ZSd λK hK=>?_
   go_simp;have yA:wr.heap.size<w2.heap.size:=HQ.out.lt;have FV:=ZBn w2 244 #[P_ (some ⟨wr.heap.size,0,none⟩)];have iT:Hid (Reads (w2.alloc (C_ #[P_ (some ⟨wr.heap.size,0,none⟩)] 244)) (w2.alloc (C_ #[P_ (some ⟨wr.heap.size,0,none⟩)] 244)).heap.size 1 (some ⟨w2.heap.size,0,none⟩) 1 [P_ (some ⟨wr.heap.size,0,none⟩)]):=ZH (Reads.aA FV rfl)
   have gn:Hid (∀u∈[Value.pointer (some ⟨wr.heap.size,0,none⟩)],u.oneCell'=true):=ZH (λu hu=>by
    obtain rfl:u=_:=by simpa using hu
    rfl)
   refine hK.out (λw'=>Kept w2.heap.size w2 w') _ _ (λ_ h=>h) (cA.alloc _) (λcu=>?_);clear hK K cA FV;repeat((first|refine ZSa ?_|refine ZSb ?_|refine ZSc ?_);simp only[Act.put,Q_])
   refine ZSe λK hK=>?_
   have oP:Below wr.heap.size wr (w2.alloc (C_ #[P_ (some ⟨wr.heap.size,0,none⟩)] 244)):=(cO.out.alloc _).below;have D6:=Ze HR.out oP;refine Za9 _ (.tmp 20) (.tmp 24) _ rfl 0 244 i0 _ 1 8 underlying241 hi dd cV dc rfl ZO (S_ aa k fC) k (pp.map λq => P_ (some ⟨q,0,none⟩)) rfl D6 _ (some ⟨w2.heap.size,0,none⟩) 1 1 [P_ (some ⟨wr.heap.size,0,none⟩)] rfl iT.out gn.out ZF ZO (Nat.zero_le _) ?_;intro v3 w3 dW i5 oe;have Da:∀g,(Value.slice aa k fC).ownBlock=some g->g<wr.heap.size:=λg hg=>(Zb HR.out hg).2
   have cN:Upd (· = t) iW (iW.at_ wr.heap.size (t+1+k)) wr (w2.alloc (C_ #[P_ (some ⟨wr.heap.size,0,none⟩)] 244)):=(ZUb (T:=(· = t)) oP HU.out.fresh).az (ZL _) ZP _
   have de:=cN.grow (t:=t) rfl (λg hg=>by
    unfold Own.at_;rw[ZPn (by have:=Da g hg;omega)]
    exact HO.out g hg) (λg hg=>(Zb dW hg).2) i5 oe
   have sO:(Value.slice aa k fC).ownBlock≠some (w.heap.size+1+1):=Zr HR.out iY.out.blk ZJ;have fK:=(iY.out.blk.ob oP).grown i5 (Ne.symm sO);have Rt:=(iY.out.told.ob oP).grown i5 (Ne.symm (Zr HR.out iY.out.told ZJ));have Q3:=(HC.out.ob oP).grown i5 (Ne.symm (Zr HR.out HC.out ZJ));have Rl:=(HQ.out.alloc (C_ #[P_ (some ⟨wr.heap.size,0,none⟩)] 244)).grown i5 (λe=>by have:=Da _ e.symm;omega);obtain⟨cK,dQ⟩:∃cK,cK=(iW.at_ wr.heap.size (t+1+k)).put v3 t:=⟨_,rfl⟩;have Rm:cK wr.heap.size=t+1+k:=by
    rw[dQ,de.2 _ ZP];unfold Own.at_;rw[ZPp rfl]
   have yI:∀g,v3.ownBlock=some g->cK g=t:=λg hg=>by
    rw[dQ];unfold Own.put;rw[ZPp hg]
   rw[←dQ]at de;have F7:cK (w.heap.size+1+1)=t:=by
    rw[de.1.old _ G9];exact iY.out.mine
   have Iy:∀i q,(pp++[wr.heap.size])[i]? = some q->ShelfAt cK (t+1+i) w3 q c.w 0 []:=λi q hq=>by
    rw[List.getElem?_append]at hq;split at hq
    ·exact(HS.out i q hq).upd de.1 ZO
    ·have uX:i-pp.length=0:=by
      have:=(ZZ.1 hq).1;simp at this;omega
     rw[uX]at hq;have hq:wr.heap.size=q:=by simpa using hq
     subst hq;have Ox:i=k:=by
      have:=EN.out;omega
     subst Ox;exact⟨Rm,_,Rl,RowAt.nil _ _ _⟩
   obtain⟨a3,dK,rfl⟩:∃a cap,v3=S_ a (k+1) cap:=by
    rcases dW.2 with ⟨h1,h2⟩|⟨g,cap,_,h1,_⟩
    ·omega
    ·exact⟨_,cap,h1⟩
   have cB:=fK.cell 0;have gM:=fK.frozen 0;simp only[ZD,ZE]at cB;have oA:=fK.lt;obtain⟨kA,dN,UH,tB,ew,lI,Bn,Be⟩:=ZH8 dW fK Rt Q3 (HU.out.trans de.1) F7 yI Iy;have s9:Hid (cK (w.heap.size+1)=t):=ZH (by rw[de.1.old _ iY.out.told.lt];exact iY.out.gown);have HPT:Hid ((w.heap.size+1+1:Nat)≠w.heap.size+1):=ZH ZO;clear dW fK Rt Q3 Rl cN de F7 Rm yI Iy i5 oe dQ sO Da D6 oP;refine hK.out _ _ ?_;clear hK K cu;repeat((first|refine ZSa ?_|refine ZSb ?_|refine ZSc ?_);simp only[Act.put,Q_])
   refine ZSe λK hK=>?_
   go_simp;refine hK.out _ _ ?_;clear hK K;refine ZSf ?_;go_wp2
   go_roundw
   case rel =>
    refine⟨k+1,cK,S_ a3 (k+1) dK,ZO,ZN,ZH (tB.out.far (by show w.heap.size≠w.heap.size+1+1;omega) _),ZH ⟨lI.out,dN.out.aj 0 _,s9.out,UH.out.far (by show w.heap.size+1≠w.heap.size+1+1;omega) _,pp++[wr.heap.size],by rw[ZI,EN.out];rfl,?_,Bn.out,λi q hq=>?_⟩,ZH (ew.out.setCell (p:=⟨w.heap.size+1+1,0,none⟩) (λh=>absurd h (by show ¬(w.heap.size+1+1<w.heap.size);omega)) _)⟩
    ·rw[List.map_append];exact Zi kA.out (λg hg _=>Below.heap_setCell _ _ _ _ (λhe=>Zr kA.out dN.out ZJ (by rw[hg,he])))
    ·have h:=Be.out i q hq;exact h.upd ((Upd.refl (· = t) cK w3 ew.out.fresh).setCell (p:=⟨w.heap.size+1+1,0,none⟩) (λ_=>lI.out) _) ZO
   case measure=>simp[intOf];omega
  ·obtain rfl:k=c.n:=ZO;go_wp2
   go_ret;obtain⟨pp,hl,cT,dk,im⟩:=iY.out.ex;rcases cT.2 with ⟨h1,h2⟩|⟨g,cap,cur,h1,_,cH,gG,hcap2,dS,ii⟩
   ·omega
   ·subst h1;have kT:(List.replicate c.n (⟨0,[]⟩:Sh)).length=c.n:=List.length_replicate;refine⟨_,iW,rfl,ZO,⟨iY.out.mine,ZM,g,cap,w.heap.size+1,cur,by rw[kT];exact iY.out.blk,dk g rfl,iY.out.gown,by rw[kT];exact gG,cH,iY.out.told,λi s hs=>?_⟩,HU.out⟩;have hi:i<c.n:=by
     have:=(ZZ.1 hs).1;rwa [kT]at this
    obtain rfl:s=⟨0,[]⟩:=List.eq_of_mem_replicate (ZY hs);obtain⟨q,hq⟩:∃q,pp[i]? = some q:=⟨_,ZX ZO⟩;refine⟨q,?_,im i q hq⟩;have e:=congrArg (λl:List Value=>l[i]?) ii;simp only[List.getElem?_map,hq,Option.map_some]at e;rw[List.getElem?_take,ZPp ZO,Array.getElem?_toList]at e;exact e
def ZeE(x k:Int):Int:=1+(x.tmod k+k).tmod k
theorem Zcx(x:Int){k:Int}(hk:0<k):1<=ZeE x k/\ZeE x k<=k:=by
 unfold ZeE;have h1:=Int.tmod_lt_of_pos x hk;have h2 : -k<x.tmod k:=by
  have:=Int.tmod_lt_of_pos (-x) hk;rw[Int.neg_tmod]at this;omega
 have h3:0<=x.tmod k+k:=ZO;have h4:=Int.tmod_nonneg k h3;have h5:=Int.tmod_lt_of_pos (x.tmod k+k) hk;omega
theorem w64{n:Int}(h0:0<=n)(h1:n<9223372036854775808):wrap64 n=n:=by unfold wrap64;omega
theorem ZfO(x:Int){k:Int}(hk:0<k)(cX:k<=1000):wrap64 (1+(wrap64 (x.tmod k+k)).tmod k)=((ZeE x k).toNat:Int):=by
 have h1:=Int.tmod_lt_of_pos x hk;have h2 : -k<x.tmod k:=by
  have:=Int.tmod_lt_of_pos (-x) hk;rw[Int.neg_tmod]at this;omega
 have h3:=Zcx x hk;have e0:wrap64 (x.tmod k+k)=x.tmod k+k:=w64 ZO ZO;have e:1+(x.tmod k+k).tmod k=ZeE x k:=rfl;rw[e0,e,w64 ZO ZO];omega
def Zjg(x0 x1 x2 x3 x4 x5:Int):Cfg:=⟨(ZeE x0 5).toNat,(ZeE x1 4).toNat,(ZeE x2 8).toNat,(ZeE x3 20).toNat,(ZeE x4 4).toNat,(ZeE x5 3).toNat⟩
theorem Zop(x0 x1 x2 x3 x4 x5:Int):(Zjg x0 x1 x2 x3 x4 x5).Ok:=by
 have h0:=Zcx x0 (k:=5) ZO;have h1:=Zcx x1 (k:=4) ZO;have h2:=Zcx x2 (k:=8) ZO;have h3:=Zcx x3 (k:=20) ZO;have h4:=Zcx x4 (k:=4) ZO;have h5:=Zcx x5 (k:=3) ZO;constructor <;> simp only[Zjg] <;> omega
theorem ZuS(x0 x1 x2 x3 x4 x5:Int)(w:World):Calls prog 11 #[.agg #[I_ J_ x0,I_ J_ x1,I_ J_ x2,I_ J_ x3,I_ J_ x4,I_ J_ x5]] w (Zx (Zd1 (Zjg x0 x1 x2 x3 x4 x5)) w):=by
 have hb:=(ZBn w 23 #[I_ J_ x0,I_ J_ x1,I_ J_ x2,I_ J_ x3,I_ J_ x4,I_ J_ x5]).alloc (C_ #[I_ J_ 0,I_ J_ 0,I_ J_ 0,I_ J_ 0,I_ J_ 0,I_ J_ 0] 23);obtain⟨c0,c1,c2,c3,c4,c5⟩:=hb.aR;have hl:=hb.lt;clear hb;go_enter func11,ntmps11;go_wp2_with fail;rw[ZfO x0 ZO ZO,ZfO x1 ZO ZO,ZfO x2 ZO ZO,ZfO x3 ZO ZO,ZfO x4 ZO ZO,ZfO x5 ZO ZO];have gW:=ZBn (w.alloc (C_ #[I_ J_ x0,I_ J_ x1,I_ J_ x2,I_ J_ x3,I_ J_ x4,I_ J_ x5] 23)) 23 (cfgArr (Zjg x0 x1 x2 x3 x4 x5));rw[World.size_alloc]at gW;refine bodyPost_ret (Z6 rfl rfl (run_loadVar_row _ _ _ _ _ _ _ gW underlying23 rfl ZK)) rfl ?_;exact⟨rfl,(((ZKr w).alloc _).alloc _).below⟩
def Zfv(c:Cfg):Cfg:=⟨c.n,c.w,c.q,max c.h (c.n*c.w),c.l,c.p⟩
theorem Zs9{c:Cfg}(h:c.Ok):(Zfv c).Ok:=by
 obtain⟨n1,n5,w1,w4,q1,q8,h1,h20,l1,l4,p1,p3⟩:=h;have hm:c.n*c.w<=20:=ZT (Nat.mul_le_mul n5 w4) ZO;refine⟨n1,n5,w1,w4,q1,q8,?_,?_,l1,l4,p1,p3⟩
 ·show 1<=max c.h (c.n*c.w)
  omega
 ·show max c.h (c.n*c.w)<=20
  omega
theorem ZuO(x0 x1 x2 x3 x4 x5:Int)(w:World):Calls prog 19 #[.agg #[I_ J_ x0,I_ J_ x1,I_ J_ x2,I_ J_ x3,I_ J_ x4,I_ J_ x5]] w (Zx (Zd1 (Zfv (Zjg x0 x1 x2 x3 x4 x5))) w):=by
 have HK:=ZH (((ZKr w).alloc (C_ #[I_ J_ x0,I_ J_ x1,I_ J_ x2,I_ J_ x3,I_ J_ x4,I_ J_ x5] 23)).alloc (C_ #[I_ J_ 0,I_ J_ 0,I_ J_ 0,I_ J_ 0,I_ J_ 0,I_ J_ 0] 23));have hb:=(ZBn w 23 #[I_ J_ x0,I_ J_ x1,I_ J_ x2,I_ J_ x3,I_ J_ x4,I_ J_ x5]).alloc (C_ #[I_ J_ 0,I_ J_ 0,I_ J_ 0,I_ J_ 0,I_ J_ 0,I_ J_ 0] 23);have hz:=ZBn (w.alloc (C_ #[I_ J_ x0,I_ J_ x1,I_ J_ x2,I_ J_ x3,I_ J_ x4,I_ J_ x5] 23)) 23 #[I_ J_ 0,I_ J_ 0,I_ J_ 0,I_ J_ 0,I_ J_ 0,I_ J_ 0];rw[World.size_alloc]at hz;have em:=Zop x0 x1 x2 x3 x4 x5;have qR:=ZuS x0 x1 x2 x3 x4 x5 ((w.alloc (C_ #[I_ J_ x0,I_ J_ x1,I_ J_ x2,I_ J_ x3,I_ J_ x4,I_ J_ x5] 23)).alloc (C_ #[I_ J_ 0,I_ J_ 0,I_ J_ 0,I_ J_ 0,I_ J_ 0,I_ J_ 0] 23));obtain⟨c,hc⟩:∃c,c=Zjg x0 x1 x2 x3 x4 x5:=⟨_,rfl⟩;rw[←hc]at em qR ⊢;obtain⟨c0,c1,c2,c3,c4,c5⟩:=hb.aR;have hl:=hb.lt;obtain⟨HZ,dU,HF⟩:=ZH3 hz em qR;clear hb hz em qR hc;go_enter func19,ntmps19;go_wp2_with fail;refine HF.out.mono ?_;rintro _ w1 ⟨rfl,cz⟩;obtain⟨da,lK⟩:=ZH2 (HK.out.step cz) (HZ.out.ob cz);clear cz c0 c1 c2 c3 c4 c5 hl;obtain⟨z0,z1,z2,z3,z4,z5⟩:=lK.out.aR;have hzl:=lK.out.lt;have hzf:=λi=>lK.out.frozen i
 go_wp2_with fail;have hm:c.n*c.w<=20:=ZT (Nat.mul_le_mul dU.out.n5 dU.out.w4) ZO;have e1:wrap64 ((c.n:Int)*(c.w:Int))=((c.n*c.w:Nat):Int):=by
  rw[w64 (by rw[←Int.natCast_mul];omega) (by rw[←Int.natCast_mul];omega),Int.natCast_mul]
 have e2:max (c.h:Int) ((c.n*c.w:Nat):Int)=((max c.h (c.n*c.w):Nat):Int):=ZO;rw[e1,e2];have dz:=(Zal (vs:=cfgArr (Zfv c)) lK.out rfl).alloc (C_ (cfgArr (Zfv c)) 23);have m8:=(Zaf da.out (g:=w.heap.size+1) ZO 0 (cfgArr (Zfv c)).toList).alloc (C_ (cfgArr (Zfv c)) 23);refine bodyPost_ret (w:=(setAll w1 (w.heap.size+1) 0 (cfgArr (Zfv c)).toList).alloc (C_ (cfgArr (Zfv c)) 23)) (Z6 rfl rfl (run_loadVar_row _ _ _ _ _ _ _ dz underlying23 rfl ZK)) rfl ?_;exact⟨rfl,m8.below⟩
def ZbB(k:ByteArray):Nat->Nat
 | 0=>0
 |n+1=>ZbB k n+(k.data.getD n 0).toNat
theorem ZgC(k:ByteArray):∀n,ZbB k n<=255*n
 | 0=>ZL _
 |n+1=>by
  have h:=ZgC k n;have h2:(k.data.getD n 0).toNat<256:=UInt8.toNat_lt _;show ZbB k n+_<=_
  omega
theorem ZlC(k:ByteArray)(h:n<k.size):ZbB k (n+1)=ZbB k n+(k[n]).toNat:=by
 show ZbB k n+(k.data.getD n 0).toNat=_
 have e:k.data.getD n 0=k[n]:=by
  rw[Array.getD_eq_getD_getElem?,Array.getElem?_eq_getElem (show n<k.data.size from h)];rfl
 rw[e]
def ZeF:ByteArray:=⟨#[97,110,110]⟩
def ZeG:ByteArray:=⟨#[98,111,98]⟩
def kCy:ByteArray:=⟨#[99,121]⟩
def keyF(n:Nat):ByteArray:=if n%3=0 then ZeF else if n%3=1 then ZeG else kCy
def v0F:ByteArray:=⟨#[49]⟩
def v1F:ByteArray:=⟨#[116,119,111]⟩
def v2F:ByteArray:=⟨#[0,255]⟩
def v3F:ByteArray:=⟨#[116,119,101,108,118,101,32,98,121,116,101,115]⟩
def Zhm(n:Nat):ByteArray:=if n%4=0 then v0F else if n%4=1 then v1F else if n%4=2 then v2F else v3F
def kindF(x:Int):Nat:=(ZeE x 5).toNat
def labF(k:Nat)(l:Int):Nat:=if k<=2 then 0 else(l%2).toNat
def valueF(k:Nat)(v:ByteArray):ByteArray:=if k<=2 then ByteArray.empty else Zhm (ZbB v v.size)
theorem ZuC:KeyOk ZeF/\KeyOk ZeG/\KeyOk kCy:=by
 unfold KeyOk;decide
theorem Zt3(n:Nat):KeyOk (keyF n):=by
 have h:=ZuC;unfold keyF;split
 ·exact h.1
 ·split
  ·exact h.2.1
  ·exact h.2.2
theorem Zuj(n:Nat):1<=(Zhm n).size/\(Zhm n).size<=12:=by
 unfold Zhm;split
 ·decide
 ·split
  ·decide
  ·split <;> decide
theorem ZiS(x:Int):1<=kindF x/\kindF x<=5:=by
 have h:=Zcx x (k:=5) ZO;unfold kindF;omega
theorem Zoq(x:Int)(k:ByteArray)(l:Int)(v:ByteArray):EditOk (kindF x) (keyF (ZbB k k.size)) (labF (kindF x) l) (valueF (kindF x) v):=by
 have hk:=ZiS x;refine⟨hk.1,hk.2,Zt3 _,λh=>?_,λh=>?_⟩
 ·unfold labF valueF;rw[ZPp h,ZPp h];exact⟨rfl,rfl⟩
 ·unfold labF valueF;rw[ZPn ZO,ZPn ZO];exact⟨ZO,Zuj _⟩
theorem Zu0(l:Int):bits .and .i64 l 1=((l%2).toNat:Int):=by
 have e:(BitVec.ofInt 64 l &&& BitVec.ofInt 64 1).toNat=(l%2).toNat:=by
  rw[BitVec.toNat_and,show(BitVec.ofInt 64 1).toNat=1 from rfl,Nat.and_one_is_mod,BitVec.toNat_ofInt];omega
 show IntKind.i64.wrap ((BitVec.ofInt 64 l &&& BitVec.ofInt 64 1).toNat:Int)=_
 rw[e,IntKind.wrap_i64];omega
theorem ZqN{t:Nat}(h:Blk w g t #[T_ ZeF,T_ ZeG,T_ kCy])(n:Nat):w.cell? ⟨g,n%3,none⟩=some (T_ (keyF n)):=by
 rw[h.cell];unfold keyF;have h3:n%3=0∨n%3=1∨n%3=2:=ZO;rcases h3 with e|e|e <;> rw[e] <;> rfl
theorem ZrF{t:Nat}(h:Blk w g t #[T_ v0F,T_ v1F,T_ v2F,T_ v3F])(n:Nat):w.cell? ⟨g,n%4,none⟩=some (T_ (Zhm n)):=by
 rw[h.cell];unfold Zhm;have h3:n%4=0∨n%4=1∨n%4=2∨n%4=3:=ZO;rcases h3 with e|e|e|e <;> rw[e] <;> rfl
theorem Ztk(x:Int)(k:ByteArray)(l:Int)(v:ByteArray)(w:World)(hk:k.size<=140737488351232)(hv:v.size<=140737488351232):
  Calls prog 25 #[.agg #[I_ J_ x,T_ k,I_ J_ l,T_ v]] w (Zx (Zfz (kindF x) (keyF (ZbB k k.size)) (labF (kindF x) l) (valueF (kindF x) v)) w):=by
 obtain⟨ed,eh⟩:=ZH2 (((((ZKr w).alloc (C_ #[I_ J_ x,T_ k,I_ J_ l,T_ v] 33)).alloc (C_ #[I_ J_ 0,T_ ⟨#[]⟩,I_ J_ 0,T_ ⟨#[]⟩] 33)).alloc (C_ #[T_ ZeF,T_ ZeG,T_ kCy] 110)).alloc (C_ #[T_ v0F,T_ v1F,T_ v2F,T_ v3F] 111)) ((((ZBn w 33 #[I_ J_ x,T_ k,I_ J_ l,T_ v]).alloc (C_ #[I_ J_ 0,T_ ⟨#[]⟩,I_ J_ 0,T_ ⟨#[]⟩] 33)).alloc (C_ #[T_ ZeF,T_ ZeG,T_ kCy] 110)).alloc (C_ #[T_ v0F,T_ v1F,T_ v2F,T_ v3F] 111));have cz:=((ZBn (w.alloc (C_ #[I_ J_ x,T_ k,I_ J_ l,T_ v] 33)) 33 #[I_ J_ 0,T_ ⟨#[]⟩,I_ J_ 0,T_ ⟨#[]⟩]).alloc (C_ #[T_ ZeF,T_ ZeG,T_ kCy] 110)).alloc (C_ #[T_ v0F,T_ v1F,T_ v2F,T_ v3F] 111);have cD:=(ZBn ((w.alloc (C_ #[I_ J_ x,T_ k,I_ J_ l,T_ v] 33)).alloc (C_ #[I_ J_ 0,T_ ⟨#[]⟩,I_ J_ 0,T_ ⟨#[]⟩] 33)) 110 #[T_ ZeF,T_ ZeG,T_ kCy]).alloc (C_ #[T_ v0F,T_ v1F,T_ v2F,T_ v3F] 111);have cG:=ZBn (((w.alloc (C_ #[I_ J_ x,T_ k,I_ J_ l,T_ v] 33)).alloc (C_ #[I_ J_ 0,T_ ⟨#[]⟩,I_ J_ 0,T_ ⟨#[]⟩] 33)).alloc (C_ #[T_ ZeF,T_ ZeG,T_ kCy] 110)) 111 #[T_ v0F,T_ v1F,T_ v2F,T_ v3F];simp only[World.size_alloc]at cz cD cG;obtain⟨dj,df,dN⟩:=ZH3 cz cD cG;clear cz cD cG;have h1:=eh.out.cell 1;simp only[ZD,ZE,ZG]at h1;have hl:=eh.out.lt;clear h1 hl;go_enter func25,ntmps25;go_wp2_with fail;have e:(((w.alloc (C_ #[I_ J_ x,T_ k,I_ J_ l,T_ v] 33)).alloc (C_ #[I_ J_ 0,T_ ⟨#[]⟩,I_ J_ 0,T_ ⟨#[]⟩] 33)).alloc (C_ #[T_ ZeF,T_ ZeG,T_ kCy] 110)).alloc (C_ #[T_ v0F,T_ v1F,T_ v2F,T_ v3F] 111)=(((w.alloc (C_ #[I_ J_ x,T_ k,I_ J_ l,T_ v] 33)).alloc (C_ #[I_ J_ 0,T_ ⟨#[]⟩,I_ J_ 0,T_ ⟨#[]⟩] 33)).alloc (C_ #[T_ ⟨#[97,110,110]⟩,T_ ⟨#[98,111,98]⟩,T_ ⟨#[99,121]⟩] 110)).alloc (C_ #[T_ ⟨#[49]⟩,T_ ⟨#[116,119,111]⟩,T_ ⟨#[0,255]⟩,T_ ⟨#[116,119,101,108,118,101,32,98,121,116,101,115]⟩] 111):=rfl;rw[←e];generalize (((w.alloc (C_ #[I_ J_ x,T_ k,I_ J_ l,T_ v] 33)).alloc (C_ #[I_ J_ 0,T_ ⟨#[]⟩,I_ J_ 0,T_ ⟨#[]⟩] 33)).alloc (C_ #[T_ ZeF,T_ ZeG,T_ kCy] 110)).alloc (C_ #[T_ v0F,T_ v1F,T_ v2F,T_ v3F] 111)=W at *;clear e;go_loopw [5,6] (λa i wr=>∃q:Nat,q<=k.size/\i=I_ J_ q/\a=I_ J_ (ZbB k q)/\W=wr) (λ_ i _=>k.size-(intOf i).toNat)
 case atStart=>exact⟨0,ZO,rfl,rfl,rfl⟩
 case round =>
  obtain⟨q,hq,rfl,rfl,rfl⟩:=hrel;have h1:=eh.out.cell 1;simp only[ZD,ZE,ZG]at h1;have hl:=eh.out.lt;by_cases Ii:q<k.size
  ·have hs:=ZgC k q;have sU:=ZlC k Ii;have Nz:(k[q]).toNat<256:=UInt8.toNat_lt _;have Bc:=ZH sU;clear sU;go_wp2
   go_roundw
   case rel=>exact⟨q+1,ZO,ZN,by rw[Bc.out,Int.natCast_add],by first|trivial|rfl⟩
   case measure=>simp[intOf];omega
  ·obtain rfl:q=k.size:=ZO;obtain⟨n,hn⟩:∃n,n=ZbB k k.size:=⟨_,rfl⟩;have fI:=ZgC k k.size;rw[←hn]at fI ⊢;have HN:=ZH hn;clear hn Ii;go_wp2_with fail;go_loopw [7,8] (λa i wr=>∃q:Nat,q<=v.size/\i=I_ J_ q/\a=I_ J_ (ZbB v q)/\W=wr) (λ_ i _=>v.size-(intOf i).toNat)
   case atStart=>exact⟨0,ZO,rfl,rfl,rfl⟩
   case round =>
    obtain⟨q,hq,rfl,rfl,rfl⟩:=hrel;have h3:=eh.out.cell 3;simp only[ZD,ZE,ZG]at h3;by_cases Ii:q<v.size
    ·have hs:=ZgC v q;have sU:=ZlC v Ii;have Nz:(v[q]).toNat<256:=UInt8.toNat_lt _;have Bc:=ZH sU;clear sU;go_wp2
     go_roundw
     case rel=>exact⟨q+1,ZO,ZN,by rw[Bc.out,Int.natCast_add],by first|trivial|rfl⟩
     case measure=>simp[intOf];omega
    ·obtain rfl:q=v.size:=ZO;obtain⟨m,hm⟩:∃m,m=ZbB v v.size:=⟨_,rfl⟩;have jP:=ZgC v v.size;rw[←hm]at jP ⊢;have HM:=ZH hm;clear hm Ii;have uX:(0:Int)<=(n:Int).tmod 3:=Int.tmod_nonneg _ ZO;have RV:(n:Int).tmod 3<3:=Int.tmod_lt_of_pos _ ZO;have LC:Hid (((n:Int).tmod 3).toNat=n%3):=ZH (rfl);go_wp2_with fail;refine ZSh (λw'=>Blk w' w.heap.size 33 #[I_ J_ x,T_ k,I_ J_ l,T_ v]/\Blk w' (w.heap.size+1+1) 110 #[T_ ZeF,T_ ZeG,T_ kCy]) [(0,3),(1,0),(2,3),(3,3),(4,3),(5,3),(6,3),(7,3),(8,3),(9,0),(10,3),(11,1),(12,1)] (⟨eh.out.drew,df.out.drew⟩) λcu=>?_
     repeat((first|refine ZSa ?_|refine ZSb ?_|(refine Zf rfl (by rfl) (λw' cL=>by(have c0:=cL.1.cell 0;simp only[ZD,ZE]at c0;have ww:=ZqN cL.2 n;rw[←LC.out]at ww);go_simp;with_reducible rfl) ?_));simp only[Act.put,Q_])
     refine ZSd λK hK=>?_
     go_simp;refine hK.out (λw'=>Blk w' w.heap.size 33 #[I_ J_ x,T_ k,I_ J_ l,T_ v]/\Blk w' (w.heap.size+1+1) 110 #[T_ ZeF,T_ ZeG,T_ kCy]) _ _ (λ_ h=>h) ⟨(eh.out.alloc _).drew,(df.out.alloc _).drew⟩ (λ_=>?_);clear hK K;refine ZSd λK hK=>?_
     go_simp;refine hK.out (λw'=>Blk w' w.heap.size 33 #[I_ J_ x,T_ k,I_ J_ l,T_ v]/\Blk w' (w.heap.size+1+1) 110 #[T_ ZeF,T_ ZeG,T_ kCy]) _ _ (λ_ h=>h) ⟨(eh.out.alloc _).drew,(df.out.alloc _).drew⟩ (λ_=>?_);clear hK K;refine ZSf ?_;have ig:=ZiS x;have ek:IntKind.i64.wrap (1+(IntKind.i64.wrap (x.tmod 5+5)).tmod 5)=(kindF x:Int):=by
      have h:=ZfO x (k:=5) ZO ZO;have h2:∀n,IntKind.i64.wrap n=wrap64 n:=λn=>by rw[IntKind.wrap_i64];unfold wrap64;rfl
      rw[←h2,←h2]at h;exact h
     rw[ek];obtain⟨K,hK⟩:∃K,K=kindF x:=⟨_,rfl⟩;rw[←hK]at ig ⊢;have Ds:=ZH hK;have gi:=(ZBn W 33 #[I_ J_ (K:Int),T_ (keyF n),I_ J_ 0,T_ ⟨#[]⟩]).drew;have cO:=ZH ((ed.out.alloc (C_ #[I_ J_ (K:Int),T_ (keyF n),I_ J_ 0,T_ ⟨#[]⟩] 33)).drew);have cD:=(eh.out.alloc (C_ #[I_ J_ (K:Int),T_ (keyF n),I_ J_ 0,T_ ⟨#[]⟩] 33)).drew;have dV:=(dj.out.alloc (C_ #[I_ J_ (K:Int),T_ (keyF n),I_ J_ 0,T_ ⟨#[]⟩] 33)).drew;have tu:=(dN.out.alloc (C_ #[I_ J_ (K:Int),T_ (keyF n),I_ J_ 0,T_ ⟨#[]⟩] 33)).drew;have jt:w.heap.size+1+1+1<W.heap.size:=dN.out.lt;obtain⟨g,hg⟩:∃g,g=W.heap.size:=⟨_,rfl⟩;rw[←hg]at gi jt ⊢;clear hK ek uX RV hg h1 h3 hl;generalize (W.alloc (C_ #[I_ J_ (K:Int),T_ (keyF n),I_ J_ 0,T_ ⟨#[]⟩] 33)).drew=W2 at *;obtain⟨xj,fP⟩:=ZH2 gi dV;obtain⟨d0,d1,d2,d3⟩:_/\_/\_/\_:=⟨gi.cell 0,gi.cell 1,gi.cell 2,gi.cell 3⟩;simp only[ZD,ZE,ZG]at d0 d1 d2 d3;have ez:=gi.lt;have Ki:=λi=>gi.frozen i
     have e2:=cD.cell 2;simp only[ZD,ZE,ZG]at e2;have cW:=cD.lt;have Kw:=ZrF tu m;have sY:=tu.lt;have hrf:=λi=>dV.frozen i
     obtain⟨f0,f1,f2,f3⟩:_/\_/\_/\_:=⟨dV.cell 0,dV.cell 1,dV.cell 2,dV.cell 3⟩;simp only[ZD,ZE,ZG]at f0 f1 f2 f3;have kT:=dV.lt;clear gi dV cD tu;have TG:=ZH (Zu0 l);by_cases gU:K<=2
     ·go_wp2_with fail;have dz:=((((fP.out.aj 0 (I_ J_ (K:Int))).aj 1 (T_ (keyF n))).aj 2 (I_ J_ 0)).aj 3 (T_ ⟨#[]⟩));refine bodyPost_ret (Z6 rfl rfl (run_loadVar_row _ _ _ _ _ _ _ dz underlying33 rfl ZK)) rfl ?_;refine⟨?_,((((cO.out.setCell (p:=⟨_,0,none⟩) (by show _<=w.heap.size+1;omega) _).setCell (p:=⟨_,1,none⟩) (by show _<=w.heap.size+1;omega) _).setCell (p:=⟨_,2,none⟩) (by show _<=w.heap.size+1;omega) _).setCell (p:=⟨_,3,none⟩) (by show _<=w.heap.size+1;omega) _).below⟩;have e1:labF (kindF x) l=0:=by unfold labF;rw[←Ds.out,ZPp gU]
      have e2:valueF (kindF x) v=⟨#[]⟩:=by unfold valueF;rw[←Ds.out,ZPp gU];rfl
      rw[e1,e2,←Ds.out,←HN.out];rfl
     ·go_wp2_with fail;rw[TG.out];have R3:g≠w.heap.size+1:=ZO;have dz:=(((((fP.out.far (p:=⟨g,2,none⟩) R3.symm (I_ J_ ((l%2).toNat:Int))).far (p:=⟨g,3,none⟩) R3.symm (T_ (Zhm m))).aj 0 (I_ J_ (K:Int))).aj 1 (T_ (keyF n))).aj 2 (I_ J_ ((l%2).toNat:Int))).aj 3 (T_ (Zhm m));refine bodyPost_ret (Z6 rfl rfl (run_loadVar_row _ _ _ _ _ _ _ dz underlying33 rfl ZK)) rfl ?_;refine⟨?_,((((((cO.out.setCell (p:=⟨g,2,none⟩) (by show _<=g;omega) _).setCell (p:=⟨g,3,none⟩) (by show _<=g;omega) _).setCell (p:=⟨_,0,none⟩) (by show _<=w.heap.size+1;omega) _).setCell (p:=⟨_,1,none⟩) (by show _<=w.heap.size+1;omega) _).setCell (p:=⟨_,2,none⟩) (by show _<=w.heap.size+1;omega) _).setCell (p:=⟨_,3,none⟩) (by show _<=w.heap.size+1;omega) _).below⟩;have e1:labF (kindF x) l=(l%2).toNat:=by unfold labF;rw[←Ds.out,ZPn gU]
      have e2:valueF (kindF x) v=Zhm m:=by unfold valueF;rw[←Ds.out,ZPn gU,←HM.out]
      rw[e1,e2,←Ds.out,←HN.out];rfl
structure Con where
 key:ByteArray
 h0:Bool
 h1:Bool
 f0:ByteArray
 f1:ByteArray
 s0:List ByteArray
 s1:List ByteArray
abbrev Zbi(c:Con)(v0 v1:Value):Array Value:=#[T_ c.key,B_ c.h0,B_ c.h1,T_ c.f0,T_ c.f1,v0,v1]
theorem ZfI(a b:ByteArray):(a.toList==b.toList)=true↔a=b:=by
 rw[←beq_toListBytes];exact Go.MapKept.bytes_beq a b
theorem Zql(c:Con)(a0 a1:Option Addr)(n0 c0 n1 c1:Nat)(g:Nat)(ek:ByteArray)(hk:w.cell? ⟨g,1,none⟩=some (T_ ek))(hg:g<w.heap.size):
  Calls prog 109 #[.agg (Zbi c (S_ a0 n0 c0) (S_ a1 n1 c1)),P_ (some ⟨g,0,none⟩)] w λr w'=>∃t:Bool,r=R_ (B_ t)/\(t=true↔c.key=ek)/\L_ w w':=by
 go_enter func109,ntmps109;go_wp2
 go_ret;exact⟨_,rfl,ZfI _ _,(ZW _ _).alloc (ZL _) _⟩
theorem Zcq(a b:ByteArray):(a.toList==b.toList)=decide (a=b):=by
 by_cases h:a=b
 ·rw[(ZfI a b).2 h];simp[h]
 ·rw[decide_eq_false h]
  cases hc:a.toList==b.toList with
  |false=>rfl
  |true=>exact absurd ((ZfI a b).1 hc) h
def Zdz(a b:Ev):Bool:=decide (a.key=b.key)
def Ze9(a b:Ev):Bool:=Zdz a b&&decide (a.label=b.label)
def Zd6(a b:Ev):Bool:=Ze9 a b&&decide (a.value=b.value)
theorem Zgi(a b:Ev)(w:World):Calls prog 182 #[Zaj a,Zaj b] w (Zx (B_ (Zdz a b)) w):=by
 go_enter func182,ntmps182;go_wp2
 go_ret;exact⟨by rw[Zcq];rfl,(((ZKr w).alloc _).alloc _).below⟩
theorem Zl3(a b:Ev)(w:World):Calls prog 219 #[Zaj a,Zaj b] w (Zx (B_ (Ze9 a b)) w):=by
 have hx:=λW=>Zgi a b W
 obtain⟨HA,HB,wQ⟩:=ZH3 ((ZBn w 89 (evArr a)).alloc (C_ (evArr b) 89)) (Zag w (C_ (evArr a) 89) 89 (evArr b)) (ZbT w (C_ (evArr a) 89) (C_ (evArr b) 89));go_enter func219,ntmps219;go_wp2_with fail;refine(hx _).mono ?_;rintro r w1 ⟨rfl,cz⟩;have BJ:=HA.out.ob cz;have dm:=HB.out.ob cz;obtain⟨a0,a1,a2,a3,a4,a5,a6,a7,a8,a9,sj,Ni⟩:=BJ.ag;obtain⟨b0,b1,b2,b3,b4,b5,b6,b7,b8,b9,QF,QG⟩:=dm.ag;have Cu:=BJ.lt;have oU:=dm.lt;have dj:=ZH (wQ.out.trans (cz.mono ZP));clear cz BJ dm;rcases vQ:Zdz a b with _|_
 ·go_wp2
  go_ret;exact⟨by simp[Ze9,vQ],dj.out⟩
 ·go_wp2
  go_ret;exact⟨by simp[Ze9,vQ,ZhH],dj.out⟩
theorem Zkd(a b:Ev)(w:World):Calls prog 184 #[Zaj a,Zaj b] w (Zx (B_ (Zd6 a b)) w):=by
 have hx:=λW=>Zl3 a b W
 obtain⟨HA,HB,wQ⟩:=ZH3 ((ZBn w 89 (evArr a)).alloc (C_ (evArr b) 89)) (Zag w (C_ (evArr a) 89) 89 (evArr b)) (ZbT w (C_ (evArr a) 89) (C_ (evArr b) 89));go_enter func184,ntmps184;go_wp2_with fail;refine(hx _).mono ?_;rintro r w1 ⟨rfl,cz⟩;have BJ:=HA.out.ob cz;have dm:=HB.out.ob cz;obtain⟨a0,a1,a2,a3,a4,a5,a6,a7,a8,a9,sj,Ni⟩:=BJ.ag;obtain⟨b0,b1,b2,b3,b4,b5,b6,b7,b8,b9,QF,QG⟩:=dm.ag;have Cu:=BJ.lt;have oU:=dm.lt;have dj:=ZH (wQ.out.trans (cz.mono ZP));clear cz BJ dm;rcases vQ:Ze9 a b with _|_
 ·go_wp2
  go_ret;exact⟨by simp[Zd6,vQ],dj.out⟩
 ·go_wp2
  go_ret;exact⟨by simp[Zd6,vQ,Zcq],dj.out⟩
def Zg2(p:Ev->Bool)(l:List Ev):Int:=match l.findIdx? p with|some k=>k|none => -1
theorem Zsc(h:EvSl w a n cap l)(hn:n<=1000000)(F:Nat)(nm:Array Value)(p:Ev->Bool)(lO:∀args W,(callFunc F args).run prog W=.ok (.enter F args) W)
  (fg:∀W e,e∈l->L_ w W->Calls prog F (#[Zaj e]++nm) W (Zx (B_ (p e)) W)) :
  Calls prog 239 #[S_ a n cap,.func (.func F) #[] nm] w (Zx (I_ J_ (Zg2 p l)) w):=by
 obtain⟨gb,HS,tC⟩:=ZH3 (h.2.2.1) h fg;clear h fg;go_enter func239,ntmps239;go_wp2_with fail;go_loopw [5,8] (λ_ i wr=>∃q:Nat,q<=n/\i=I_ J_ q/\Hid (∀j c,j<q->l[j]? = some c->p c=false)/\Hid (K_ w wr)) (λ_ i _=>n-(intOf i).toNat)
 case atStart=>exact⟨0,ZO,rfl,ZH (λj x hj=>ZO),ZH (ZKr w)⟩
 case round =>
  obtain⟨q,hq,rfl,HN,HK⟩:=hrel;by_cases du:q<n
  ·obtain⟨c,hc⟩:∃c,l[q]? = some c:=⟨_,ZX (by rw[gb.out];exact du)⟩;have hs:=HS.out.of_same (w':=wr) (λad _ hl=>HK.out.below.block _ hl) HK.out.le;obtain⟨bk,off,rfl,cW,c0,c1,c2,c3,c4,c5,c6,c7,c8,c9,dg,dh⟩:=hs.at_ hc;obtain⟨K0,HC⟩:=ZH2 (tC.out wr c (ZY hc) HK.out.below) hc;clear hs hc;go_wp2_with fail;refine K0.out.mono ?_;rintro _ w3 ⟨rfl,cG⟩;have cU:=ZH (HK.out.step cG);clear cG;rcases Sj:p c with _|_
   ·go_wp2
    go_roundw
    case rel=>exact⟨q+1,ZO,ZN,ZH (λj y hj hy=>by
     rcases Nat.lt_or_ge j q with h|h
     ·exact HN.out j y h hy
     ·obtain rfl:j=q:=ZO;rw[HC.out]at hy;injection hy with hy;rw[←hy]
      exact Sj),cU⟩
    case measure=>simp[intOf];omega
   ·have kF:Zg2 p l=(q:Int):=by
     have O8:q<l.length:=by rw[gb.out];exact du
     have:l.findIdx? p=some q:=List.findIdx?_eq_some_iff_getElem.2 ⟨O8,by
      have:=HC.out;rw[ZX O8]at this;injection this with this;rw[this];exact Sj,λj hj=>by
      rw[HN.out j _ hj (ZX ZO)]
      simp⟩
     unfold Zg2;rw[this]
    go_wp2
    go_ret;exact⟨by rw[kF];rfl,cU.out.below⟩
  ·obtain rfl:q=n:=ZO;have kF:Zg2 p l = -1:=by
    have:l.findIdx? p=none:=by
     rw[List.findIdx?_eq_none_iff];intro x hx;obtain⟨j,hj,he⟩:=List.getElem_of_mem hx;exact HN.out j x (by rw[←gb.out];exact hj) (by rw[ZX hj,he])
    unfold Zg2;rw[this]
   go_wp2
   go_ret;exact⟨by rw[kF];rfl,HK.out.below⟩
theorem ZqG(p:Ev->Bool)(l:List Ev):decide (Zg2 p l>=0)=l.any p:=by
 unfold Zg2
 cases h:l.findIdx? p with
 |none =>
  rw[List.findIdx?_eq_none_iff]at h;have:l.any p=false:=by rw[List.any_eq_false];intro x hx;simp[h x hx]
  rw[this];simp
 |some k =>
  obtain⟨hk,h1,_⟩:=List.findIdx?_eq_some_iff_getElem.1 h;have:l.any p=true:=by rw[List.any_eq_true];exact⟨_,List.getElem_mem hk,h1⟩
  rw[this];simp
theorem Zge(h:EvSl w a n cap l)(hn:n<=1000000)(F:Nat)(nm:Array Value)(p:Ev->Bool)(lO:∀args W,(callFunc F args).run prog W=.ok (.enter F args) W)
  (fg:∀W e,e∈l->L_ w W->Calls prog F (#[Zaj e]++nm) W (Zx (B_ (p e)) W)) :
  Calls prog 216 #[S_ a n cap,.func (.func F) #[] nm] w (Zx (B_ (l.any p)) w):=by
 have H:=ZH (Zsc h hn F nm p lO fg);clear fg h lO;go_enter func216,ntmps216;go_wp2_with fail;refine H.out.mono ?_;rintro _ w3 ⟨rfl,cG⟩;go_wp2
 go_ret;exact⟨by rw[←ZqG];rfl,cG⟩
abbrev ZaX(k F:Nat):Array Value:=#[I_ J_ k,.func (.func F) #[] #[]]
theorem Blk.aW{v0 v1:Value}(h:Blk w g t #[v0,v1]):w.cell? ⟨g,0,none⟩=some v0/\w.cell? ⟨g,1,none⟩=some v1:=⟨h.cell 0,h.cell 1⟩
theorem ZoJ{ps pe:Nat}(hs:Blk w ps 295 (ZaX k F))(he:Blk w pe 89 (evArr e))(sm:Ev->Ev->Bool)(lO:∀args W,(callFunc F args).run prog W=.ok (.enter F args) W)(cY:∀a b W,Calls prog F #[Zaj a,Zaj b] W (Zx (B_ (sm a b)) W))(a:Ev)(hr:e.r<5):
  Calls prog 217 #[Zaj a,P_ (some ⟨ps,0,none⟩),P_ (some ⟨pe,0,none⟩)] w (Zx (B_ (decide (a.kind=k)&&sm a e&&e.below a)) w):=by
 have hx:=λW=>cY a e W
 have hy:=λW=>Zf1 e a W hr
 have eS:=(ZW w.heap.size w).alloc (ZL _) (C_ (evArr a) 89);have jG:=hs.ob eS;have fR:=he.ob eS;have HA:=ZH (ZBn w 89 (evArr a));obtain⟨s0,s1⟩:=jG.aW;obtain⟨e0,e1,e2,e3,e4,e5,e6,e7,e8,e9,jj,jI⟩:=fR.ag;have Sa:=hs.lt;have eE:=he.lt;obtain⟨HE,HB⟩:=ZH2 fR eS;clear hs he jG fR eS cY;go_enter func217,ntmps217;by_cases hk:a.kind=k
 ·have cX:((a.kind:Int)==(k:Int))=true:=by simp[hk]
  have kH:=ZH hk;clear hk;go_wp2_with fail;refine(hx _).mono ?_;rintro _ w1 ⟨rfl,cz⟩;have qe:=HE.out.ob cz;have oO:=HA.out.ob cz;obtain⟨e0,e1,e2,e3,e4,e5,e6,e7,e8,e9,jj,jI⟩:=qe.ag;obtain⟨a0,a1,a2,a3,a4,a5,a6,a7,a8,a9,sj,Ni⟩:=oO.ag;have Cu:=oO.lt;have GV:=qe.lt;have dj:=ZH (HB.out.trans (cz.mono ZM));clear cz qe oO;rcases vQ:sm a e with _|_
  ·go_wp2
   go_ret;exact⟨by simp[vQ],dj.out⟩
  ·go_wp2_with fail;refine(hy _).mono ?_;rintro _ w2 ⟨rfl,cD⟩;go_wp2
   go_ret;exact⟨by simp[vQ,kH.out],dj.out.trans (cD.mono dj.out.size)⟩
 ·have cX:((a.kind:Int)==(k:Int))=false:=ZP;have kH:=ZH hk;clear hk;go_wp2
  go_ret;exact⟨by simp[kH.out],HB.out⟩
theorem Zhy(sm:Ev->Ev->Bool)(lO:∀args W,(callFunc F args).run prog W=.ok (.enter F args) W)(cY:∀a b W,Calls prog F #[Zaj a,Zaj b] W (Zx (B_ (sm a b)) W))(h:EvSl w a n cap l)(hn:n<=1000000)(hr:e.r<5):
  Calls prog 183 #[.agg (ZaX k F),S_ a n cap,Zaj e] w (Zx (B_ (l.any λa=>decide (a.kind=k)&&sm a e&&e.below a)) w):=by
 have hS:=(ZBn w 295 (ZaX k F)).alloc (C_ (evArr e) 89);have hE:=Zag w (C_ (ZaX k F) 295) 89 (evArr e);have om:=ZbT w (C_ (ZaX k F) 295) (C_ (evArr e) 89);have hc:=Zge (h.below om) hn 217 #[P_ (some ⟨w.heap.size,0,none⟩),P_ (some ⟨w.heap.size+1,0,none⟩)] (λa=>decide (a.kind=k)&&sm a e&&e.below a) (enters_of func217 ZK rfl)
  (λW x hx hW=>ZoJ (hS.below hW ZP) (hE.below hW ZM) sm lO cY x (by first|exact hr|exact hr x hx))
 obtain⟨HC,HB⟩:=ZH2 hc om;clear hS hE om hc h cY lO;go_enter func183,ntmps183;go_wp2_with fail;refine HC.out.mono ?_;rintro _ w1 ⟨rfl,cz⟩;go_wp2
 go_ret;exact⟨rfl,HB.out.trans (cz.mono ZP)⟩
theorem ZoP{ps pe:Nat}(hs:Blk w ps 295 (ZaX k F))(he:Blk w pe 89 (evArr e))(sm:Ev->Ev->Bool)(lO:∀args W,(callFunc F args).run prog W=.ok (.enter F args) W)(cY:∀a b W,Calls prog F #[Zaj a,Zaj b] W (Zx (B_ (sm a b)) W))(a:Ev)(hr:a.r<5):
  Calls prog 220 #[Zaj a,P_ (some ⟨ps,0,none⟩),P_ (some ⟨pe,0,none⟩)] w (Zx (B_ (decide (a.kind=k)&&sm a e&&a.below e)) w):=by
 have hx:=λW=>cY a e W
 have hy:=λW=>Zf1 a e W hr
 have eS:=(ZW w.heap.size w).alloc (ZL _) (C_ (evArr a) 89);have jG:=hs.ob eS;have fR:=he.ob eS;have HA:=ZH (ZBn w 89 (evArr a));obtain⟨s0,s1⟩:=jG.aW;obtain⟨e0,e1,e2,e3,e4,e5,e6,e7,e8,e9,jj,jI⟩:=fR.ag;have Sa:=hs.lt;have eE:=he.lt;obtain⟨HE,HB⟩:=ZH2 fR eS;clear hs he jG fR eS cY;go_enter func220,ntmps220;by_cases hk:a.kind=k
 ·have cX:((a.kind:Int)==(k:Int))=true:=by simp[hk]
  have kH:=ZH hk;clear hk;go_wp2_with fail;refine(hx _).mono ?_;rintro _ w1 ⟨rfl,cz⟩;have qe:=HE.out.ob cz;have oO:=HA.out.ob cz;obtain⟨e0,e1,e2,e3,e4,e5,e6,e7,e8,e9,jj,jI⟩:=qe.ag;obtain⟨a0,a1,a2,a3,a4,a5,a6,a7,a8,a9,sj,Ni⟩:=oO.ag;have Cu:=oO.lt;have GV:=qe.lt;have dj:=ZH (HB.out.trans (cz.mono ZM));clear cz qe oO;rcases vQ:sm a e with _|_
  ·go_wp2
   go_ret;exact⟨by simp[vQ],dj.out⟩
  ·go_wp2_with fail;refine(hy _).mono ?_;rintro _ w2 ⟨rfl,cD⟩;go_wp2
   go_ret;exact⟨by simp[vQ,kH.out],dj.out.trans (cD.mono dj.out.size)⟩
 ·have cX:((a.kind:Int)==(k:Int))=false:=ZP;have kH:=ZH hk;clear hk;go_wp2
  go_ret;exact⟨by simp[kH.out],HB.out⟩
theorem Zl4(sm:Ev->Ev->Bool)(lO:∀args W,(callFunc F args).run prog W=.ok (.enter F args) W)(cY:∀a b W,Calls prog F #[Zaj a,Zaj b] W (Zx (B_ (sm a b)) W))(h:EvSl w a n cap l)(hn:n<=1000000)(hr:∀x∈l,x.r<5):
  Calls prog 185 #[.agg (ZaX k F),S_ a n cap,Zaj e] w (Zx (B_ (l.any λa=>decide (a.kind=k)&&sm a e&&a.below e)) w):=by
 have hS:=(ZBn w 295 (ZaX k F)).alloc (C_ (evArr e) 89);have hE:=Zag w (C_ (ZaX k F) 295) 89 (evArr e);have om:=ZbT w (C_ (ZaX k F) 295) (C_ (evArr e) 89);have hc:=Zge (h.below om) hn 220 #[P_ (some ⟨w.heap.size,0,none⟩),P_ (some ⟨w.heap.size+1,0,none⟩)] (λa=>decide (a.kind=k)&&sm a e&&a.below e) (enters_of func220 ZK rfl)
  (λW x hx hW=>ZoP (hS.below hW ZP) (hE.below hW ZM) sm lO cY x (by first|exact hr|exact hr x hx))
 obtain⟨HC,HB⟩:=ZH2 hc om;clear hS hE om hc h cY lO;go_enter func185,ntmps185;go_wp2_with fail;refine HC.out.mono ?_;rintro _ w1 ⟨rfl,cz⟩;go_wp2
 go_ret;exact⟨rfl,HB.out.trans (cz.mono ZP)⟩
def Zck(l:List Ev)(e:Ev):Bool:=decide (e.kind=1) && !(l.any λa=>decide (a.kind=2)&&Zdz a e&&e.below a)
abbrev ZaU(l:List Ev):List Ev:=l.filter (Zck l)
theorem Zd2{α : Type}(p : α -> Bool)(l:List α)(e : α):(l++[e]).filter p=l.filter p++if p e=true then [e] else []:=by
 rw[List.filter_append];by_cases h:p e=true <;> simp[h]
theorem Zpk(h:EvSl w a n cap l)(hn:n<=1000000)(hr:∀x∈l,x.r<5):
  Calls prog 154 #[S_ a n cap] w (ZeK (ZaU l) w):=by
 have HL:=ZH (h.2.2.1);obtain⟨i0,hi,dd,cV,dc⟩:=info_parts ZbV;have cP:=(ZW w.heap.size w).alloc (ZL _) (C_ (ZaX 2 182) 295);obtain⟨HS,HE⟩:=ZH2 (ZBn w 295 (ZaX 2 182)) (h.below cP);have HW:Hid ((w.alloc (C_ (ZaX 2 182) 295)).heap.size=w.heap.size+1):=ZH (ZM);obtain⟨eh,HR⟩:=ZH2 cP hr;clear h hr;go_enter func154,ntmps154;go_wp2_with fail;generalize w.alloc (C_ (ZaX 2 182) 295)=w1 at *;have HO:Hid (w1.ownsRow w1.heap.size 89 12 (S_ none 0 0) ((l.take 0).filter (Zck l)).length (evCells ((l.take 0).filter (Zck l)))):=ZH ⟨rfl,.inl ⟨rfl,rfl⟩⟩;have HK:=ZH (ZKr w1);clear cP;go_loopw [4,10] (λv i wr=>∃q:Nat,q<=n/\i=I_ J_ q/\Hid (wr.ownsRow w1.heap.size 89 12 v ((l.take q).filter (Zck l)).length (evCells ((l.take q).filter (Zck l))))/\Hid (Kept w1.heap.size w1 wr)) (λ_ i _=>n-(intOf i).toNat)
 case atStart=>exact⟨0,Nat.zero_le _,rfl,HO,HK⟩
 case round =>
  skip
  obtain⟨q,hq,rfl,HO,HK⟩:=hrel;by_cases du:q<n
  ·obtain⟨e,he⟩:∃e,l[q]? = some e:=⟨_,ZX (by rw[HL.out];exact du)⟩;have hs:=HE.out.of_same (w':=wr) (λad _ hl=>HK.out.below.block _ hl) HK.out.le;have eu:=hs;obtain⟨bk,off,rfl,cW,c0,c1,c2,c3,c4,c5,c6,c7,c8,c9,dg,dh⟩:=hs.at_ he;have iC:=Zd2 (Zck l) (l.take q) e;rw[←Zan he]at iC;have sw:((l.take q).filter (Zck l)).length<=1000000:=by
    have h1:=List.length_filter_le (Zck l) (l.take q);rw[ZV]at h1;omega
   obtain⟨aa,fC,rfl,_⟩:=EvSl.ae HO.out;have cX:=HK.out.alloc (C_ (evArr e) 89);have fQ:=(ZW wr.heap.size wr).alloc (ZL _) (C_ (evArr e) 89);obtain⟨iX,oL⟩:=ZH2 (Ze HO.out fQ) (ZBn wr 89 (evArr e));have lN:Blk (wr.alloc (C_ (evArr e) 89)) w.heap.size 295 (ZaX 2 182):=HS.out.below cX.below HS.out.lt;have KM:=ZH (Zhy (e:=e) (k:=2) Zdz (enters_of func182 ZK rfl) (λa b W=>Zgi a b W) (eu.below fQ) hn (HR.out e (ZY he)));obtain⟨s0,s1⟩:=lN.aW;have Sa:=lN.lt;obtain⟨fy,cO⟩:=ZH2 iC cX;clear hs eu he iC cX fQ lN;by_cases dI:e.kind=1
   ·have l7:((e.kind:Int)==1)=true:=by simp[dI]
    have da:=ZH dI;clear dI;go_wp2_with fail;refine KM.out.mono ?_;rintro _ w3 ⟨rfl,cG⟩;have kD:=oL.out.ob cG;obtain⟨x0,x1,x2,x3,x4,x5,x6,x7,x8,x9,fh,fi⟩:=kD.ag;have ko:=kD.lt;obtain⟨cU,iR⟩:=ZH2 (cO.out.step cG) (Ze iX.out cG);clear cG kD;rcases gV:(l.any λa=>decide (a.kind=2)&&Zdz a e&&e.below a) with _|_
    ·have hp:Zck l e=true:=by simp[Zck,da.out,gV]
     rw[ZPp hp]at fy;have dM:=cU.out.alloc (C_ (evArr e) 89);have dO:=ZH (Ze iR.out ((ZW w3.heap.size w3).alloc (ZL _) (C_ (evArr e) 89)));have eB:=dM.le;have dw:=ZH dM;clear dM;go_wp2_with (at_builtin;refine Zc _ rfl (.tmp 24) (.tmp 26) _ rfl w1.heap.size 89 i0 _ 12 112 underlying128 hi dd cV dc rfl ZO (S_ aa ((l.take q).filter (Zck l)).length fC) ((l.take q).filter (Zck l)).length (evCells ((l.take q).filter (Zck l))) rfl dO.out (w3.heap.size+1) (some ⟨w3.heap.size,0,none⟩) 1 1 (evArr e).toList rfl (Zcj w3 e) (ZaT e) ZF ZO eB ?_;intro v7 w7 cF db ey)
     have it:w7.ownsRow w1.heap.size 89 12 v7 ((l.take (q+1)).filter (Zck l)).length (evCells ((l.take (q+1)).filter (Zck l))):=by rw[fy.out];exact RowE.snoc cF
     have fx:Hid (Kept w1.heap.size w1 w7):=ZH (⟨dw.out.below.grown db dw.out.le (λg hg=>(Zb dO.out hg).1),ZT dw.out.le db.size⟩);have iG:=ZH it;go_wp2
     go_roundw
     case rel=>exact⟨q+1,ZO,ZN,iG,fx⟩
     case measure=>simp[intOf];omega
    ·have hp:¬Zck l e=true:=by simp[Zck,gV]
     rw[ZPn hp,List.append_nil]at fy;go_wp2
     go_roundw
     case rel=>exact⟨q+1,ZO,ZN,by rw[fy.out];exact iR,cU⟩
     case measure=>simp[intOf];omega
   ·have l7:((e.kind:Int)==1)=false:=ZP;have hp:¬Zck l e=true:=by simp[Zck,dI]
    rw[ZPn hp,List.append_nil]at fy;clear dI;go_wp2
    go_roundw
    case rel=>exact⟨q+1,ZO,ZN,by rw[fy.out];exact iX,cO⟩
    case measure=>simp[intOf];omega
  ·obtain rfl:q=n:=ZO;have gN:l.take q=l:=ZU (by rw[HL.out];exact ZL _);rw[gN]at HO;obtain⟨aa,fC,rfl,_⟩:=EvSl.ae HO.out;have pW:=eh.out.size;go_wp2
   go_ret;exact⟨_,rfl,Zj HO.out pW,eh.out.trans (HK.out.below.mono pW)⟩
def ZbF(cs:List Ev)(e:Ev):Bool:=cs.any λa=>decide (a.kind=1)&&Zdz a e&&a.below e
def ZeH(l:List Ev)(e:Ev):Bool:=l.any λa=>decide (a.kind=5)&&Zd6 a e&&e.below a
def ZdO(l cs:List Ev)(e:Ev):Bool:=if e.kind=3 then ZbF cs e else if e.kind=4 then ZbF cs e && !(ZeH l e) else false
def ZaY(l cs:List Ev):List Ev:=l.filter (ZdO l cs)
theorem Zmq(h:EvSl w a n cap l)(hn:n<=1000000)(hr:∀x∈l,x.r<5){ac:Option Addr}{nc Fz:Nat}{cs:List Ev}(hc:EvSl w ac nc Fz cs)(fp:nc<=1000000)(Iq:∀x∈cs,x.r<5):
  Calls prog 155 #[S_ a n cap,S_ ac nc Fz] w (ZeK (ZaY l cs) w):=by
 obtain⟨p,iu⟩:∃p:Ev->Bool,p=ZdO l cs:=⟨_,rfl⟩;have e9:ZaY l cs=l.filter p:=by rw[iu];rfl
 rw[e9];have HP:=ZH iu;clear iu e9;have HL:=ZH (h.2.2.1);obtain⟨i0,hi,dd,cV,dc⟩:=info_parts ZbV;have cP:=ZbT w (C_ (ZaX 1 182) 295) (C_ (ZaX 5 184) 295);obtain⟨HS,HT,HE,HC,eh,HR,Mx⟩:=ZH7 ((ZBn w 295 (ZaX 1 182)).alloc (C_ (ZaX 5 184) 295)) (Zag w (C_ (ZaX 1 182) 295) 295 (ZaX 5 184)) (h.below cP) (hc.below cP) cP hr Iq;clear h hr hc Iq;go_enter func155,ntmps155;go_wp2_with fail;generalize (w.alloc (C_ (ZaX 1 182) 295)).alloc (C_ (ZaX 5 184) 295)=w2 at *;have HO:Hid (w2.ownsRow w2.heap.size 89 12 (S_ none 0 0) ((l.take 0).filter p).length (evCells ((l.take 0).filter p))):=ZH ⟨rfl,.inl ⟨rfl,rfl⟩⟩;have HK:=ZH (ZKr w2);clear cP;go_loopw [7,14] (λv i wr=>∃q:Nat,q<=n/\i=I_ J_ q/\Hid (wr.ownsRow w2.heap.size 89 12 v ((l.take q).filter p).length (evCells ((l.take q).filter p)))/\Hid (K_ w2 wr)) (λ_ i _=>n-(intOf i).toNat)
 case atStart=>exact⟨0,Nat.zero_le _,rfl,HO,HK⟩
 case round =>
  skip
  obtain⟨q,hq,rfl,HO,HK⟩:=hrel;by_cases du:q<n
  ·obtain⟨e,he⟩:∃e,l[q]? = some e:=⟨_,ZX (by rw[HL.out];exact du)⟩;have hs:=HE.out.of_same (w':=wr) (λad _ hl=>HK.out.below.block _ hl) HK.out.le;have eu:=hs;obtain⟨bk,off,rfl,cW,c0,c1,c2,c3,c4,c5,c6,c7,c8,c9,dg,dh⟩:=hs.at_ he;have iC:=Zd2 p (l.take q) e;rw[←Zan he]at iC;have sw:((l.take q).filter p).length<=1000000:=by
    have h1:=List.length_filter_le p (l.take q);rw[ZV]at h1;omega
   obtain⟨aa,fC,rfl,_⟩:=EvSl.ae HO.out;have cX:=HK.out.alloc (C_ (evArr e) 89);have fQ:=(ZW wr.heap.size wr).alloc (ZL _) (C_ (evArr e) 89);obtain⟨iX,oL⟩:=ZH2 (Ze HO.out fQ) (ZBn wr 89 (evArr e));have rv:Blk (wr.alloc (C_ (evArr e) 89)) w.heap.size 295 (ZaX 1 182):=HS.out.below cX.below HS.out.lt;have dx:Blk (wr.alloc (C_ (evArr e) 89)) (w.heap.size+1) 295 (ZaX 5 184):=HT.out.below cX.below HT.out.lt;have AL:=ZH (Zl4 (e:=e) (k:=1) Zdz (enters_of func182 ZK rfl) (λa b W=>Zgi a b W) (HC.out.below cX.below) fp Mx.out);have It:=λW (hW:Below (wr.alloc (C_ (evArr e) 89)).heap.size (wr.alloc (C_ (evArr e) 89)) W)=>Zhy (e:=e) (k:=5) Zd6 (enters_of func184 ZK rfl) (λa b W=>Zkd a b W) ((eu.below fQ).below hW) hn (HR.out e (ZY he))
   obtain⟨y0,y1⟩:=rv.aW;obtain⟨z0,z1⟩:=dx.aW;have zT:=rv.lt;have m9:=dx.lt;obtain⟨fy,cO,qo,df,UD⟩:=ZH5 iC cX rv dx It;clear hs eu he iC cX fQ rv dx It;by_cases h3:e.kind=3
   ·have b3:((e.kind:Int)==3)=true:=by simp[h3]
    have sM:p e=ZbF cs e:=by rw[HP.out];simp[ZdO,h3]
    rw[sM]at fy;clear h3 sM;go_wp2_with fail;refine AL.out.mono ?_;rintro _ w3 ⟨rfl,cG⟩;clear y0 y1 z0 z1 zT m9;have kD:=oL.out.ob cG;have xD:=qo.out.ob cG;have fK:=df.out.ob cG;obtain⟨x0,x1,x2,x3,x4,x5,x6,x7,x8,x9,fh,fi⟩:=kD.ag;obtain⟨y0,y1⟩:=xD.aW;obtain⟨z0,z1⟩:=fK.aW;have ko:=kD.lt;have zT:=xD.lt;have m9:=fK.lt;obtain⟨cU,iR,ro,Do,dN,Em⟩:=ZH6 (cO.out.step cG) (Ze iX.out cG) kD xD fK cG;clear cG kD xD fK;rcases gV:ZbF cs e with _|_
    ·rw[gV,ZPn ZM,List.append_nil]at fy;unfold ZbF at gV;rw[gV];go_wp2
     go_roundw
     case rel=>exact⟨q+1,ZO,ZN,by rw[fy.out];exact iR,cU⟩
     case measure=>simp[intOf];omega
    ·rw[gV,ZPp rfl]at fy;unfold ZbF at gV;rw[gV];have dM:=cU.out.alloc (C_ (evArr e) 89);have gZ:=Ze iR.out ((ZW w3.heap.size w3).alloc (ZL _) (C_ (evArr e) 89));have eB:=dM.le;obtain⟨dw,dO⟩:=ZH2 dM gZ;clear dM gZ;go_wp2_with (at_builtin;refine Zc _ rfl (.tmp 26) (.tmp 28) _ rfl w2.heap.size 89 i0 _ 12 112 underlying128 hi dd cV dc rfl ZO (S_ aa ((l.take q).filter p).length fC) ((l.take q).filter p).length (evCells ((l.take q).filter p)) rfl dO.out (w3.heap.size+1) (some ⟨w3.heap.size,0,none⟩) 1 1 (evArr e).toList rfl (Zcj w3 e) (ZaT e) ZF ZO eB ?_;intro v7 w7 cF db ey)
     have it:w7.ownsRow w2.heap.size 89 12 v7 ((l.take (q+1)).filter p).length (evCells ((l.take (q+1)).filter p)):=by rw[fy.out];exact RowE.snoc cF
     have iV:K_ w2 w7:=⟨dw.out.below.grown db dw.out.le (λg hg=>(Zb dO.out hg).1),ZT dw.out.le db.size⟩;obtain⟨iG,fx⟩:=ZH2 it iV;go_wp2
     go_roundw
     case rel=>exact⟨q+1,ZO,ZN,iG,fx⟩
     case measure=>simp[intOf];omega
   ·have b3:((e.kind:Int)==3)=false:=ZP;by_cases h4:e.kind=4
    ·have b4:((e.kind:Int)==4)=true:=by simp[h4]
     have sM:p e=(ZbF cs e && !(ZeH l e)):=by rw[HP.out];simp[ZdO,h4]
     rw[sM]at fy;clear h3 h4 sM;go_wp2_with fail;refine AL.out.mono ?_;rintro _ w3 ⟨rfl,cG⟩;clear y0 y1 z0 z1 zT m9;have kD:=oL.out.ob cG;have xD:=qo.out.ob cG;have fK:=df.out.ob cG;obtain⟨x0,x1,x2,x3,x4,x5,x6,x7,x8,x9,fh,fi⟩:=kD.ag;obtain⟨y0,y1⟩:=xD.aW;obtain⟨z0,z1⟩:=fK.aW;have ko:=kD.lt;have zT:=xD.lt;have m9:=fK.lt;obtain⟨cU,iR,ro,Do,dN,Em⟩:=ZH6 (cO.out.step cG) (Ze iX.out cG) kD xD fK cG;clear cG kD xD fK;rcases gV:ZbF cs e with _|_
     ·rw[gV,Bool.false_and,ZPn ZM,List.append_nil]at fy;unfold ZbF at gV;rw[gV];go_wp2
      go_roundw
      case rel=>exact⟨q+1,ZO,ZN,by rw[fy.out];exact iR,cU⟩
      case measure=>simp[intOf];omega
     ·rw[gV,Bool.true_and]at fy;unfold ZbF at gV;rw[gV];have It:=UD.out w3 Em.out;have MC:=ZH It;clear It;go_wp2_with fail;refine MC.out.mono ?_;rintro _ w5 ⟨rfl,dH⟩;clear x0 x1 x2 x3 x4 x5 x6 x7 x8 x9 fh fi y0 y1 z0 z1 ko zT m9;have qJ:=ro.out.ob dH;have J5:=Do.out.ob dH;have qd:=dN.out.ob dH;obtain⟨x0,x1,x2,x3,x4,x5,x6,x7,x8,x9,fh,fi⟩:=qJ.ag;obtain⟨y0,y1⟩:=J5.aW;obtain⟨z0,z1⟩:=qd.aW;have ko:=qJ.lt;have zT:=J5.lt;have m9:=qd.lt;obtain⟨fN,te,Ey,HA5,lX,HBL5⟩:=ZH6 (cU.out.step dH) (Ze iR.out dH) qJ J5 qd dH;clear dH qJ J5 qd;rcases mO:ZeH l e with _|_
      ·rw[mO,Bool.not_false,ZPp rfl]at fy;unfold ZeH at mO;rw[mO];have dM:=fN.out.alloc (C_ (evArr e) 89);have gZ:=Ze te.out ((ZW w5.heap.size w5).alloc (ZL _) (C_ (evArr e) 89));have eB:=dM.le;obtain⟨dw,dO⟩:=ZH2 dM gZ;clear dM gZ;go_wp2_with (at_builtin;refine Zc _ rfl (.tmp 43) (.tmp 45) _ rfl w2.heap.size 89 i0 _ 12 112 underlying128 hi dd cV dc rfl ZO (S_ aa ((l.take q).filter p).length fC) ((l.take q).filter p).length (evCells ((l.take q).filter p)) rfl dO.out (w5.heap.size+1) (some ⟨w5.heap.size,0,none⟩) 1 1 (evArr e).toList rfl (Zcj w5 e) (ZaT e) ZF ZO eB ?_;intro v7 w7 cF db ey)
       have it:w7.ownsRow w2.heap.size 89 12 v7 ((l.take (q+1)).filter p).length (evCells ((l.take (q+1)).filter p)):=by rw[fy.out];exact RowE.snoc cF
       have iV:K_ w2 w7:=⟨dw.out.below.grown db dw.out.le (λg hg=>(Zb dO.out hg).1),ZT dw.out.le db.size⟩;obtain⟨iG,fx⟩:=ZH2 it iV;go_wp2
       go_roundw
       case rel=>exact⟨q+1,ZO,ZN,iG,fx⟩
       case measure=>simp[intOf];omega
      ·rw[mO,Bool.not_true,ZPn ZM,List.append_nil]at fy;unfold ZeH at mO;rw[mO];go_wp2
       go_roundw
       case rel=>exact⟨q+1,ZO,ZN,by rw[fy.out];exact te,fN⟩
       case measure=>simp[intOf];omega
    ·have b4:((e.kind:Int)==4)=false:=ZP;have sM:p e=false:=by rw[HP.out];simp[ZdO,h3,h4]
     rw[sM,ZPn ZM,List.append_nil]at fy;clear h3 h4 sM;go_wp2
     go_roundw
     case rel=>exact⟨q+1,ZO,ZN,by rw[fy.out];exact iX,cO⟩
     case measure=>simp[intOf];omega
  ·obtain rfl:q=n:=ZO;have gN:l.take q=l:=ZU (by rw[HL.out];exact ZL _);rw[gN]at HO;obtain⟨aa,fC,rfl,_⟩:=EvSl.ae HO.out;have pW:=eh.out.size;go_wp2
   go_ret;exact⟨_,rfl,Zj HO.out pW,eh.out.trans (HK.out.below.mono pW)⟩
theorem Zsj(ah ar bh br:Int)(w:World):
  Calls prog 221 #[.agg #[I_ J_ ah,I_ J_ ar],.agg #[I_ J_ bh,I_ J_ br]] w λe w'=>e=R_ (B_ (Zd8 (ah,ar) (bh,br)))/\L_ w w':=by
 by_cases h:ah=bh
 ·subst h;go_enter func221,ntmps221;go_wp2
  go_ret;exact⟨by simp[Zd8],((ZW _ _).alloc (ZL _) _).alloc ZM _⟩
 ·have h':(ah != bh)=true:=by simpa using h
  go_enter func221,ntmps221;go_wp2
  go_ret;exact⟨by simp[Zd8,h],((ZW _ _).alloc (ZL _) _).alloc ZM _⟩
def Zp7(w:World)(b off n:Nat)(xs:List (Int×Int)):Prop :=
 b<w.heap.size/\xs.length=n/\∀i,i<n->w.cell? ⟨b,off+i*2,none⟩=some (I_ J_ (xs.getD i (0,0)).1)/\w.cell? ⟨b,off+i*2+1,none⟩=some (I_ J_ (xs.getD i (0,0)).2)
def ZrJ(xs:List (Int×Int))(w:World)(e:Ending)(w':World):Prop:=∃k:Nat,e=R_ (I_ J_ k)/\IsLast xs k/\L_ w w'
theorem Zla(b off n cap:Nat)(xs:List (Int×Int))(w:World)(gi:0<n)(hn:n<=100)(hx:Zp7 w b off n xs):
  Calls prog 186 #[S_ (some ⟨b,off,none⟩) n cap] w (ZrJ xs w):=by
 obtain⟨hb,hl,hc⟩:=hx;have qV:=ZH hl;obtain⟨QI,QJ⟩:=hc 0 gi;have hz:((n:Int)==0)=false:=ZP;have dc:(0:Int)<n:=ZO;have NC:=Zp8 xs;have Q0:=ZhF xs;generalize jS:xs.getD 0 (0,0)=x0 at QI QJ NC;obtain⟨WE,WF⟩:=x0;have sg:=ZH NC;clear jS NC;have HC:=ZH hc;clear hc;have HS:=ZH Q0;clear Q0 hl;simp only[Nat.zero_mul,Nat.add_zero]at QI QJ;go_enter func186,ntmps186;go_wp2_with fail;go_loopw [16] (λi wr=>∃(k:Nat) (ma mb:Int),k<=n/\i=I_ J_ k/\Hid (Zgb xs k=(ma,mb))/\Blk wr w.heap.size 299 #[I_ J_ ma,I_ J_ mb]/\L_ w wr) (λi _=>n-(intOf i).toNat)
 case atStart=>exact⟨0,WE,WF,Nat.zero_le _,rfl,sg,ZBn _ _ _,(ZW _ _).alloc (ZL _) _⟩
 case round =>
  obtain⟨k,ma,mb,hk,rfl,HM,hB,gE⟩:=hrel;have qH:=hB.cell 0;have dm:=hB.cell 1;have Q1:=hB.frozen 0;have FW:=hB.frozen 1;have pm:=hB.lt;simp at qH dm;by_cases cI:k<n
  ·obtain⟨d0,d1⟩:=HC.out k cI;rw[←gE.cell (p:=⟨b,off+k*2,none⟩) hb]at d0;rw[←gE.cell (p:=⟨b,off+k*2+1,none⟩) hb]at d1;have hS:=HS.out k (by rw[qV.out];exact cI);rw[HM.out]at hS;generalize Kz:xs.getD k (0,0)=xk at d0 d1 hS;obtain⟨xa,xb⟩:=xk;simp only[]at d0 d1;have Qz:=ZH hS;clear hS Kz;go_wp2_with fail;refine(Zsj ma mb xa xb _).mono ?_;rintro e w1 ⟨rfl,cz⟩;obtain⟨ny,hff⟩:=ZoO cz;have dS:=cz.size;simp at dS;have Q2:Blk w1 w.heap.size 299 #[I_ J_ ma,I_ J_ mb]:=Blk.below (hB.alloc _) cz ZP;have zz:L_ w w1:=(gE.alloc ZO _).trans (cz.mono ZP)
   cases hL:Zd8 (ma,mb) (xa,xb)
   ·go_wp2
    go_roundw
    case rel=>exact⟨k+1,ma,mb,ZO,ZN,by rw[Qz.out];simp[Hid,mx,hL],Q2,zz⟩
    case measure=>simp[intOf];omega
   ·go_wp2
    go_roundw
    case rel=>exact⟨k+1,xa,xb,ZO,ZN,by rw[Qz.out];simp[Hid,mx,hL],by have:=(Q2.aj 0 (I_ J_ xa)).aj 1 (I_ J_ xb);simpa using this,(zz.setCell (ZL _) _).setCell (ZL _) _⟩
    case measure=>simp[intOf];omega
  ·obtain rfl:n=k:=ZO;go_wp2_with fail;have ko:=qV.out;have vi:=Zja xs ZO n ZO;have C2:=Zjb xs n ZO;rw[HM.out]at vi C2;obtain⟨L0,MV⟩:=ZH2 vi C2;clear vi C2;have HL:=ZH ko;clear ko;go_loopw [27] (λi kZ=>∃(k:Nat),k<=n/\i=I_ J_ k/\(∀j,j<k->xs.getD j (0,0)≠(ma,mb))/\Blk kZ w.heap.size 299 #[I_ J_ ma,I_ J_ mb]/\L_ w kZ) (λi _=>n-(intOf i).toNat)
   case atStart=>exact⟨0,Nat.zero_le _,rfl,λj hj=>ZO,hB,gE⟩
   case round =>
    clear hB gE qH dm Q1 FW pm;obtain⟨k,hk,rfl,gY,hB,gE⟩:=hrel;have Md:=ZH gY;clear gY;have qH:=hB.cell 0;have dm:=hB.cell 1;have Q1:=hB.frozen 0;have FW:=hB.frozen 1;have pm:=hB.lt;simp at qH dm;by_cases cI:k<n
    ·obtain⟨d0,d1⟩:=HC.out k cI;rw[←gE.cell (p:=⟨b,off+k*2,none⟩) hb]at d0;rw[←gE.cell (p:=⟨b,off+k*2+1,none⟩) hb]at d1;generalize Kz:xs.getD k (0,0)=xk at d0 d1;obtain⟨xa,xb⟩:=xk;simp only[]at d0 d1;have M7:=ZH Kz;clear Kz;go_wp2_with fail
     ·rename_i e1 e2;subst e1 e2;go_ret;have e0:=HL.out;refine⟨k,rfl,⟨ZO,λj hj=>?_,λj hj=>?_⟩,gE.alloc ZO _⟩
      ·rw[M7.out];exact MV.out j ZO
      ·rw[M7.out];exact Md.out j hj
     all_goals
      go_roundw
      case rel =>
       refine⟨k+1,ZO,ZN,λj hj=>?_,hB.alloc _,gE.alloc ZO _⟩;rcases Nat.lt_or_ge j k with h|h
       ·exact Md.out j h
       ·obtain rfl:j=k:=ZO;rw[M7.out];simp only[ne_eq,Prod.mk.injEq];omega
      case measure=>simp[intOf];omega
    ·exfalso
     obtain⟨j,h1,h2⟩:=L0.out;have:=HL.out;exact Md.out j ZO h2
end Go.Proofs.YtjkfognelhiepaaGreat
namespace Go.Proofs
open Value renaming slice→S_,int→I_,bool→B_,string→T_,pointer→P_
open IntKind renaming i64→J_
open Obj renaming cells→C_
open Ending renaming returned→R_
open Go.RowKit _root_.Go.Proofs.Tryz _root_.Go.Proofs.YtjkfognelhiepaaGreat
set_option maxRecDepth 100000
set_option maxHeartbeats 8000000
open Go.Shelf
variable{F cap g k n:Nat}{a:Option Addr}{e:Ev}{l:List Ev}{t:TypeId}{v:Value}{w:World}
def Tryz.lays194_ren:Go.Shelf.Ren:=⟨λ| 194=>156|n=>n,λ| 31=>63 | 9=>9 | 3=>3 | 4=>4 | 0=>0|n=>n,λ| n=>n⟩
theorem Tryz.lays194:Go.Proofs.Lays.n194 prog Tryz.lays194_ren:={
 mixed:=ZK
 f194:=func156.trans (congrArg some ZK)
 t0:=underlying0
 a0:=Tryz.isAgg0
 z0:=Tryz.sizeOf0
 v0:=Tryz.zeroValue0
 t3:=underlying3
 a3:=Tryz.isAgg3
 z3:=Tryz.sizeOf3
 v3:=Tryz.zeroValue3
 t4:=underlying4
 a4:=Tryz.isAgg4
 z4:=Tryz.sizeOf4
 v4:=Tryz.zeroValue4
 t9:=underlying9
 a9:=Tryz.isAgg9
 z9:=Tryz.sizeOf9
 v9:=Tryz.zeroValue9
 t31:=underlying63
 a31:=Tryz.isAgg63
 z31:=Tryz.sizeOf63
 v31:=Tryz.zeroValue63 }
def Tryz.keys112_ren:Go.Shelf.Ren:=⟨λ| 7=>112 | 10=>153|n=>n,λ| 23=>197 | 26=>9 | 3=>128 | 28=>195 | 0=>0 | 27=>194 | 33=>261 | 4=>4|n=>n,λ| n=>n⟩
theorem Tryz.keys112:Go.Proofs.SlLaysZ.n7 prog Tryz.keys112_ren:={
 mixed:=ZK
 f7:=⟨f112.name,ZJ,func112.trans (congrArg some ZK)⟩
 f10:=⟨f153.name,ZJ,func153.trans (congrArg some ZK)⟩
 t0:=underlying0
 a0:=Tryz.isAgg0
 z0:=Tryz.sizeOf0
 v0:=Tryz.zeroValue0
 t4:=underlying4
 a4:=Tryz.isAgg4
 z4:=Tryz.sizeOf4
 v4:=Tryz.zeroValue4
 t23:=underlying197
 a23:=Tryz.isAgg197
 z23:=Tryz.sizeOf197
 v23:=Tryz.zeroValue197
 t26:=underlying9
 a26:=Tryz.isAgg9
 z26:=Tryz.sizeOf9
 v26:=Tryz.zeroValue9
 t27:=underlying194
 a27:=Tryz.isAgg194
 z27:=Tryz.sizeOf194
 v27:=Tryz.zeroValue194
 t28:=underlying195
 a28:=Tryz.isAgg195
 z28:=Tryz.sizeOf195
 v28:=Tryz.zeroValue195
 t33:=underlying261
 a33:=Tryz.isAgg261
 z33:=Tryz.sizeOf261
 v33:=Tryz.zeroValue261 }
def Tryz.sorted111_ren:Go.Shelf.Ren:=⟨λ| 6=>111 | 8=>151 | 9=>152 | 11=>179 | 13=>181 | 12=>180 | 23=>214 | 24=>215 | 14=>205 | 15=>206 | 16=>207 | 17=>208 | 18=>209 | 19=>210 | 20=>211 | 21=>212 | 22=>213 | 25=>233 | 26=>234 | 27=>235 | 28=>236 | 29=>237 | 30=>238 | 31=>244|n=>n,λ| 26=>9 | 28=>195 | 24=>63 | 0=>0 | 3=>3 | 37=>292 | 48=>34 | 50=>230 | 4=>4 | 40=>321 | 39=>320 | 45=>326 | 5=>5 | 9=>9 | 51=>341 | 55=>345 | 57=>351 | 58=>352 | 33=>261|n=>n,λ| n=>n⟩
theorem Tryz.sorted111:Go.Proofs.SlLaysZ.n6 prog Tryz.sorted111_ren:={
 mixed:=ZK
 f6:=⟨f111.name,ZJ,func111.trans (congrArg some ZK)⟩
 f8:=⟨f151.name,ZJ,func151.trans (congrArg some ZK)⟩
 f11:=⟨f179.name,ZJ,func179.trans (congrArg some ZK)⟩
 t0:=underlying0
 a0:=Tryz.isAgg0
 z0:=Tryz.sizeOf0
 v0:=Tryz.zeroValue0
 t24:=underlying63
 a24:=Tryz.isAgg63
 z24:=Tryz.sizeOf63
 v24:=Tryz.zeroValue63
 t26:=underlying9
 a26:=Tryz.isAgg9
 z26:=Tryz.sizeOf9
 v26:=Tryz.zeroValue9
 t28:=underlying195
 a28:=Tryz.isAgg195
 z28:=Tryz.sizeOf195
 v28:=Tryz.zeroValue195
 i26:=by kernel_rfl }
def Tryz.sort152_ren:Go.Shelf.Ren:=⟨λ| 6=>152 | 8=>181 | 9=>180 | 19=>214 | 20=>215 | 21=>205 | 22=>206 | 23=>207 | 24=>208 | 25=>209 | 26=>210 | 27=>211 | 28=>212 | 29=>213 | 36=>233 | 31=>234 | 32=>235 | 37=>236 | 38=>237 | 39=>238 | 41=>244|n=>n,λ| 27=>63 | 29=>9 | 3=>3 | 32=>292 | 26=>63 | 0=>0 | 44=>34 | 46=>230 | 4=>4 | 36=>321 | 35=>320 | 41=>326 | 5=>5 | 9=>9 | 53=>341 | 57=>345 | 63=>351 | 64=>352|n=>n,λ| n=>n⟩
theorem Tryz.sort152:Go.Proofs.SlLaysM.n6 prog Tryz.sort152_ren:={
 mixed:=ZK
 f6:=⟨f152.name,ZJ,func152.trans (congrArg some ZK)⟩
 f8:=func181.trans (congrArg some ZK)
 f9:=⟨f180.name,ZJ,func180.trans (congrArg some ZK)⟩
 f19:=func214.trans (congrArg some ZK)
 f20:=func215.trans (congrArg some ZK)
 f21:=⟨f205.name,ZJ,func205.trans (congrArg some ZK)⟩
 f22:=⟨f206.name,ZJ,func206.trans (congrArg some ZK)⟩
 f23:=⟨f207.name,ZJ,func207.trans (congrArg some ZK)⟩
 f24:=⟨f208.name,ZJ,func208.trans (congrArg some ZK)⟩
 f25:=⟨f209.name,ZJ,func209.trans (congrArg some ZK)⟩
 f26:=⟨f210.name,ZJ,func210.trans (congrArg some ZK)⟩
 f27:=⟨f211.name,ZJ,func211.trans (congrArg some ZK)⟩
 f28:=⟨f212.name,ZJ,func212.trans (congrArg some ZK)⟩
 f29:=⟨f213.name,ZJ,func213.trans (congrArg some ZK)⟩
 f31:=func234.trans (congrArg some ZK)
 f32:=func235.trans (congrArg some ZK)
 f36:=⟨f233.name,ZJ,func233.trans (congrArg some ZK)⟩
 f37:=⟨f236.name,ZJ,func236.trans (congrArg some ZK)⟩
 f38:=⟨f237.name,ZJ,func237.trans (congrArg some ZK)⟩
 f39:=⟨f238.name,ZJ,func238.trans (congrArg some ZK)⟩
 f41:=⟨f244.name,ZJ,func244.trans (congrArg some ZK)⟩
 t0:=underlying0
 a0:=Tryz.isAgg0
 z0:=Tryz.sizeOf0
 v0:=Tryz.zeroValue0
 t3:=underlying3
 a3:=Tryz.isAgg3
 z3:=Tryz.sizeOf3
 v3:=Tryz.zeroValue3
 t4:=underlying4
 a4:=Tryz.isAgg4
 z4:=Tryz.sizeOf4
 v4:=Tryz.zeroValue4
 t5:=underlying5
 a5:=Tryz.isAgg5
 z5:=Tryz.sizeOf5
 v5:=Tryz.zeroValue5
 t9:=underlying9
 a9:=Tryz.isAgg9
 z9:=Tryz.sizeOf9
 v9:=Tryz.zeroValue9
 t26:=underlying63
 a26:=Tryz.isAgg63
 z26:=Tryz.sizeOf63
 v26:=Tryz.zeroValue63
 t27:=underlying63
 a27:=Tryz.isAgg63
 z27:=Tryz.sizeOf63
 v27:=Tryz.zeroValue63
 t29:=underlying9
 a29:=Tryz.isAgg9
 z29:=Tryz.sizeOf9
 v29:=Tryz.zeroValue9
 t32:=underlying292
 a32:=Tryz.isAgg292
 z32:=Tryz.sizeOf292
 v32:=Tryz.zeroValue292
 t35:=underlying320
 a35:=Tryz.isAgg320
 z35:=Tryz.sizeOf320
 v35:=Tryz.zeroValue320
 t36:=underlying321
 a36:=Tryz.isAgg321
 z36:=Tryz.sizeOf321
 v36:=Tryz.zeroValue321
 t41:=underlying326
 a41:=Tryz.isAgg326
 z41:=Tryz.sizeOf326
 v41:=Tryz.zeroValue326
 t44:=underlying34
 a44:=Tryz.isAgg34
 z44:=Tryz.sizeOf34
 v44:=Tryz.zeroValue34
 t46:=underlying230
 a46:=Tryz.isAgg230
 z46:=Tryz.sizeOf230
 v46:=Tryz.zeroValue230
 t53:=underlying341
 a53:=Tryz.isAgg341
 z53:=Tryz.sizeOf341
 v53:=Tryz.zeroValue341
 t57:=underlying345
 a57:=Tryz.isAgg345
 z57:=Tryz.sizeOf345
 v57:=Tryz.zeroValue345
 t63:=underlying351
 a63:=Tryz.isAgg351
 z63:=Tryz.sizeOf351
 v63:=Tryz.zeroValue351
 t64:=underlying352
 a64:=Tryz.isAgg352
 z64:=Tryz.sizeOf352
 v64:=Tryz.zeroValue352 }
end Go.Proofs
namespace Go.Proofs.YtjkfognelhiepaaGreat
open Value renaming slice→S_,int→I_,bool→B_,string→T_,pointer→P_
open IntKind renaming i64→J_
open Obj renaming cells→C_
open Ending renaming returned→R_
open Go.RowKit _root_.Go.Proofs.Tryz _root_.Go.Proofs.YtjkfognelhiepaaGreat
set_option maxRecDepth 100000
set_option maxHeartbeats 8000000
variable{F cap g k n:Nat}{a:Option Addr}{e:Ev}{l:List Ev}{t:TypeId}{v:Value}{w:World}
section
open Go.RowKit Go.MapKept
section
variable {P:Program}{α : Type}
structure Enc(d:TypeDesc)(enc : α -> Value):Prop where
 key:∀a,IsKey d (enc a)
 inj:∀a b,enc a=enc b->a=b
def MapKV(enc : α -> Value)(w:World)(b:Nat)(l:List (α × Value)):Prop :=
 ∃es clk,w.heap[b]? = some (.map es clk)/\Stamped es clk/\es.toList.map (λe=>(e.key,e.val))=l.map λp=>(enc p.1,p.2)
variable {d:TypeDesc}{enc : α -> Value}{w:World}{b:Nat}{l:List (α × Value)}
theorem MapKV.lt(h:MapKV enc w b l):b<w.heap.size:=by
 obtain⟨es,clk,hb,_⟩:=h;exact(Array.getElem?_eq_some_iff.1 hb).1
theorem MapKV.of_same{w':World}(h:MapKV enc w b l)(hk:w'.heap[b]? = w.heap[b]?):MapKV enc w' b l:=by
 obtain⟨es,clk,hb,h2⟩:=h;exact⟨es,clk,hk.trans hb,h2⟩
theorem MapKV.below{w':World}(h:MapKV enc w b l)(hb:L_ w w'):MapKV enc w' b l:=h.of_same (hb.block b h.lt)
theorem MapKV.new(enc : α -> Value)(w:World):MapKV enc (w.alloc (.map #[] 0)) w.heap.size []:=⟨#[],0,(heap_alloc w _).1,stamped_empty 0,rfl⟩
variable [DecidableEq α]
def ZdF(l:List (α × Value))(a : α):Option Nat:=l.findIdx? λp=>decide (p.1=a)
def Zfi(l:List (α × Value))(a : α):Option Value:=(l.find? λp=>decide (p.1=a)).map (·.2)
def Zfp(l:List (α × Value))(a : α)(v:Value):List (α × Value):=match ZdF l a with|some i=>l.set i (a,v)|none=>l++[(a,v)]
def Zl6(l:List (α × Value))(a : α):List (α × Value):=match ZdF l a with|some i=>l.eraseIdx i|none=>l
theorem ZgT(E:Enc d enc)(a : α):∀(es:List MapEntry) (l:List (α × Value)) (i:Nat),es.map (λe=>(e.key,e.val))=l.map (λp=>(enc p.1,p.2)) ->
  Instr.findNow d (enc a) es i=some ((ZdF l a).bind λk=>(l[k]?).map λp=>(i+k,p.2))
 | [],l,i,h=>by
  have:l=[]:=by simpa using h.symm
  subst this;simp[Instr.findNow,ZdF]
 |x::es,[],i,h=>by simp at h
 |x::es,p::l,i,h=>by
  simp only[List.map_cons,List.cons.injEq,Prod.mk.injEq]at h;obtain⟨⟨h1,h2⟩,h3⟩:=h;have ih:=ZgT E a es l (i+1) h3;have hx:IsKey d x.key:=by rw[h1];exact E.key _
  obtain⟨r,hr,pH⟩:=sameNow_of_keys (E.key a) hx;simp only[Instr.findNow,hr];by_cases hc:p.1=a
  ·have:r=true:=pH.2 (by rw[h1,hc]);subst this;simp[ZdF,List.findIdx?_cons,hc,h2]
  ·have:r=false:=by
    cases r with
    |false=>rfl
    |true =>
     have:=pH.1 rfl;rw[h1]at this;exact absurd (E.inj _ _ this).symm hc
   subst this;simp only[ih,ZdF,List.findIdx?_cons,hc,decide_false,Bool.false_eq_true,if_false]
   cases hf:l.findIdx? λq=>decide (q.1=a) with
   |none=>simp
   |some k=>simp;congr 1;funext x;congr 1;omega
theorem ZrN(l:List (α × Value))(a : α):(match (ZdF l a).bind λk=>(l[k]?).map λp=>(0+k,p.2) with|some (_,v)=>some v|none=>none)=Zfi l a:=by
 induction l with
 |nil=>simp[ZdF,Zfi]
 |cons e l ih =>
  by_cases h:e.1=a
  ·simp[ZdF,Zfi,List.findIdx?_cons,h]
  ·simp only[ZdF,Zfi,List.findIdx?_cons,List.find?_cons,h,decide_false,Bool.false_eq_true,if_false]at ih ⊢;rw[←ih]
   cases l.findIdx? λp=>decide (p.1=a) with
   |none=>simp
   |some k=>cases h2:l[k]? <;> simp[h2]
theorem Zhx(E:Enc d enc){mt kt et:TypeId}(hm:P.underlying mt=some (.map kt et))(hd:P.underlying kt=some d)(z:Value)(hz:∀w,(zeroValue et).run P w=.ok z w)(h:MapKV enc w b l)(a : α):
  (Instr.lookup mt (.map (some b)) (enc a) true).run P w=.ok (match Zfi l a with|some v => .tuple #[v,B_ true] | none => .tuple #[z,B_ false]) w /\
  (Instr.lookup mt (.map (some b)) (enc a) false).run P w=.ok ((Zfi l a).getD z) w:=by
 obtain⟨es,clk,hb,_,iz⟩:=h;have hk:=run_findKey (P:=P) (w:=w) hd (ZgT E a es.toList l 0 iz);have hc:=λe=>run_checkKey (P:=P) (w:=w) hd (E.key a) e 9999
 have hg:=Go.MapKept.run_getObj_map (P:=P) hb;have hu:=run_underlying (w:=w) hm;have Cm:=ZrN l a;constructor;rotate_left;rotate_left
 all_goals
  rw[Instr.lookup];simp only[Sem.run_bind,hu,Result.andThen_ok,hg,hc,hk,Sem.run_pure];generalize (ZdF l a).bind (λk=>(l[k]?).map λp=>(0+k,p.2))=x at Cm ⊢;rcases x with _|⟨i,v⟩ <;> simp only[]at Cm <;> rw[←Cm] <;> simp[hz]
theorem Zoc{a : α}{i:Nat}(h:ZdF l a=some i):i<l.length/\∃v,l[i]? = some (a,v):=by
 unfold ZdF at h;obtain⟨hi,h1,_⟩:=List.findIdx?_eq_some_iff_getElem.1 h;have:l[i].1=a:=by simpa using h1
 refine⟨hi,l[i].2,?_⟩;rw[ZX hi,←this]
theorem ZcP(E:Enc d enc){mt kt et:TypeId}(hm:P.underlying mt=some (.map kt et))(hd:P.underlying kt=some d)(h:MapKV enc w b l)(a : α)(v:Value):
  ∃w',(Instr.mapUpdate mt (.map (some b)) (enc a) v).run P w=.ok () w'/\MapKV enc w' b (Zfp l a v)/\w.grownBy w' (some b):=by
 obtain⟨es,clk,hb,hs,iz⟩:=h;have rC:=ZgT E a es.toList l 0 iz;have hk:=run_findKey (P:=P) (w:=w) hd rC;have hc:=run_checkKey (P:=P) (w:=w) hd (E.key a) false 9999;have hg:=Go.MapKept.run_getObj_map (P:=P) hb;have hu:=run_underlying (w:=w) hm;have hlen:es.toList.length=l.length:=by have:=congrArg List.length iz;simpa using this
 have rH:∀x∈es.toList,IsKey d x.key:=λx hx=>by
  have:(x.key,x.val)∈l.map λp=>(enc p.1,p.2):=by rw[←iz];exact List.mem_map_of_mem hx
  obtain⟨p,_,hp⟩:=List.mem_map.1 this;injection hp with hp _;rw[←hp];exact E.key _
 unfold Zfp
 cases hi:ZdF l a with
 |none =>
  rw[hi]at hk rC;have rL:∀x∈es.toList,x.key≠enc a:=by
   rcases findNow_spec (E.key a) es.toList 0 rH with ⟨_,h2⟩|⟨j,e,h1,_,_⟩
   ·exact h2
   ·rw[h1]at rC;simp at rC
  refine⟨{ w with heap:=w.heap.setIfInBounds b (.map (es.push { key:=enc a,val:=v,born:=clk }) (clk+1)) },?_,⟨_,_,(heap_set hb).1,stamped_push hs rL,by simp[iz]⟩,ZcH _ _ _⟩;rw[Instr.mapUpdate];simp only[Sem.run_bind,hu,Result.andThen_ok,hg,hc,hk,Option.bind_none];exact Go.MapKept.run_setObj_map _ hb
 |some i =>
  obtain⟨oS,v0,Kj⟩:=Zoc hi;rw[hi]at hk;simp only[Option.bind_some,Kj,Option.map_some,Nat.zero_add]at hk;obtain⟨e,he⟩:∃e,es[i]? = some e:=⟨_,Array.getElem?_eq_getElem (by have:es.size=l.length:=hlen;omega)⟩;have GE:e.key=enc a:=by
   have h1:=congrArg (λl=>l[i]?) iz;simp only[List.getElem?_map,Array.getElem?_toList,he,Kj,Option.map_some]at h1;injection h1 with h1;injection h1
  have fc:∀e',es[i]? = some e'->({ e' with key:=enc a,val:=v }:MapEntry).key=e'.key:=λe' zF=>by rw[he]at zF;cases zF;exact GE.symm
  refine⟨{ w with heap:=w.heap.setIfInBounds b (.map (es.modify i λe=>{ e with key:=enc a,val:=v }) clk) },?_,⟨_,_,(heap_set hb).1,stamped_modify hs _ _ (λ_ _=>rfl) (λe' _ zF=>fc e' zF),?_⟩,ZcH _ _ _⟩
  ·rw[Instr.mapUpdate];simp only[Sem.run_bind,hu,Result.andThen_ok,hg,hc,hk,he,Option.map_some,Option.getD_some,GE,run_keyThatStays (E.key a)];exact Go.MapKept.run_setObj_map _ hb
  ·apply List.ext_getElem?;intro j;simp only[List.getElem?_map,Array.getElem?_toList,Array.getElem?_modify,List.getElem?_set];have h1:=congrArg (λl=>l[j]?) iz;simp only[List.getElem?_map,Array.getElem?_toList]at h1;by_cases pI:i=j
   ·subst pI;rw[ZPp rfl,ZPp rfl,ZPp oS,he];rfl
   ·rw[ZPn pI,ZPn pI];exact h1
theorem Zl1(E:Enc d enc){mt kt et:TypeId}(hm:P.underlying mt=some (.map kt et))(hd:P.underlying kt=some d)(h:MapKV enc w b l)(a : α)(ty:TypeId):
  ∃w',(Builtin.delete_ #[mt,kt] ty #[.map (some b),enc a]).run P w=.ok (.tuple #[]) w'/\MapKV enc w' b (Zl6 l a)/\w.grownBy w' (some b):=by
 obtain⟨es,clk,hb,hs,iz⟩:=h;have hk:=run_findKey (P:=P) (w:=w) hd (ZgT E a es.toList l 0 iz);have hc:=λe=>run_checkKey (P:=P) (w:=w) hd (E.key a) e 9999
 have hg:=Go.MapKept.run_getObj_map (P:=P) hb;have hu:=run_underlying (w:=w) hm;have hlen:es.toList.length=l.length:=by have:=congrArg List.length iz;simpa using this
 unfold Zl6
 cases hi:ZdF l a with
 |none =>
  rw[hi]at hk;refine⟨{ w with heap:=w.heap.setIfInBounds b (.map es clk) },?_,⟨es,clk,(heap_set hb).1,hs,iz⟩,ZcH _ _ _⟩;simp only[Builtin.delete_,ZD,ZE,ZG,Sem.run_bind,hu,Result.andThen_ok,hg,hc,hk,Option.bind_none];simp[setObj,Sem.run,hb]
 |some i =>
  obtain⟨oS,v0,Kj⟩:=Zoc hi;rw[hi]at hk;simp only[Option.bind_some,Kj,Option.map_some,Nat.zero_add]at hk;refine⟨{ w with heap:=w.heap.setIfInBounds b (.map (es.eraseIdxIfInBounds i) clk) },?_,⟨_,clk,(heap_set hb).1,stamped_erase hs i,?_⟩,ZcH _ _ _⟩
  ·simp only[Builtin.delete_,ZD,ZE,ZG,Sem.run_bind,hu,Result.andThen_ok,hg,hc,hk];simp[setObj,Sem.run,hb]
  ·have dS:i<es.size:=by have:es.size=l.length:=hlen;omega
   unfold Array.eraseIdxIfInBounds;rw[dif_pos dS,Array.toList_eraseIdx,←Zdp,iz,Zdp]
end
end
section
open Go.RowKit Go.Sort Go.Shelf Go.Maps
abbrev ofB(s:ByteArray):List UInt8:=s.data.toList
abbrev toB(l:List UInt8):ByteArray:=⟨l.toArray⟩
theorem Ziw(s:ByteArray):toB (ofB s)=s:=rfl
theorem Zot(ss:List ByteArray):(ss.map ofB).map encStr=ss.map Value.string:=by
 rw[List.map_map];rfl
theorem Zjh(ss:List (List UInt8)):(ss.map toB).map Value.string=ss.map encStr:=by
 rw[List.map_map];rfl
def ZaZ(ss:List ByteArray):List ByteArray:=((ss.map ofB).mergeSort λx y=>decide (x<=y)).map toB
def Za1(ss:List ByteArray):List ByteArray:=(Lib.compact (ss.map ofB)).map toB
theorem ZcC(ss:List ByteArray):(ZaZ ss).length=ss.length:=by simp[ZaZ]
theorem ZfK(ss:List ByteArray):(Za1 ss).length<=ss.length:=by
 have:=Lib.compact_length_le (ss.map ofB);simpa [Za1] using this
theorem Zjr{base:Nat}{ss:List ByteArray}(h:w.ownsRow base 9 1 v ss.length (ss.map Value.string))(hn:ss.length<=1000000000):
  Calls prog 152 #[v] w λr w'=>r=R_ (.tuple #[])/\w'.ownsRow base 9 1 v (ZaZ ss).length ((ZaZ ss).map Value.string)/\w.grownBy w' v.ownBlock:=by
 by_cases hv:v=S_ none 0 0
 ·subst hv;refine(AnyM.slices_Sort_string_none Tryz.sort152 none 0 w).mono ?_;rintro _ w' ⟨rfl,rfl⟩;have hl:ss=[]:=by
   rcases h.2 with ⟨_,h0⟩|⟨g,cap,cur,he,_⟩
   ·exact List.length_eq_zero_iff.1 h0
   ·cases he
  subst hl;exact⟨rfl,by simpa [ZaZ] using h,⟨rfl,rfl,rfl,ZL _,λ_ _ _=>rfl⟩⟩
 ·rw[←Zot]at h;obtain⟨g,cap,rfl,N6,hg,fp,iK,hl,hH⟩:=Lib.holds_of_ownsRow h hv;have wD:ss.length=(ss.map ofB).length:=ZM;have hc:=AnyM.slices_Sort_string Tryz.sort152 g 0 cap (ss.map ofB) w hH hg ZP;rw[List.length_map]at hc;refine hc.mono ?_;rintro _ w' ⟨rfl,n,os,rfl⟩;refine⟨rfl,?_,grownBy_sorted _⟩;rcases h.2 with ⟨e0,_⟩|⟨g',cap',cur,he,hb,ll,h1,h2,h3,h4⟩
  ·cases e0
  injection he with e1 _ e3
  injection e1 with e1
  injection e1 with e1
  subst e1 e3;have hs:=ownsRow_sorted (n:=n) (os:=os) (ss:=ss.map ofB) (ts:=(ss.map ofB).mergeSort λx y=>decide (x<=y)) ZM hb ll (by simpa using h1) h2 h3;rw[←Zjh]at hs;have e:(ZaZ ss).length=(ss.map ofB).length:=by rw[ZcC];simp
  rw[e];simp only[List.length_map]at hs ⊢;exact hs
theorem Zgd{base:Nat}{ss:List ByteArray}(h:w.ownsRow base 9 1 v ss.length (ss.map Value.string))(hn:ss.length<=1000000000):
  Calls prog 156 #[v] w λr w'=>∃v',r=R_ v'/\w'.ownsRow base 9 1 v' (Za1 ss).length ((Za1 ss).map Value.string)/\w.grownBy w' v.ownBlock/\v'.ownBlock=v.ownBlock:=by
 by_cases hv:v=S_ none 0 0
 ·subst hv;refine(Any.slices_Compact_string_empty Tryz.lays194 none 0 w).mono ?_;rintro _ w' ⟨rfl,rfl⟩;have hl:ss=[]:=by
   rcases h.2 with ⟨_,h0⟩|⟨g,cap,cur,he,_⟩
   ·exact List.length_eq_zero_iff.1 h0
   ·cases he
  subst hl;exact⟨_,rfl,h,⟨rfl,rfl,rfl,ZL _,λ_ _ _=>rfl⟩,rfl⟩
 ·rw[←Zot]at h;obtain⟨g,cap,rfl,N6,hg,fp,iK,hl,hH⟩:=Lib.holds_of_ownsRow h hv;have eE:=Lib.compact_length_le (ss.map ofB);have hc:=Any.slices_Compact_string Tryz.lays194 g 0 cap (ss.map ofB) w hH ZP (by simpa using fp);rw[List.length_map]at hc;refine hc.mono ?_;rintro _ w' ⟨rfl,q,rfl⟩;have cT:=Lib.ownsRow_putRow (q:=q) (k:=(Lib.compact (ss.map ofB)).length) (ys:=Lib.compact (ss.map ofB)++List.replicate (ss.length-(Lib.compact (ss.map ofB)).length) []) h (by simp at eE ⊢;omega) (by simpa using eE);rw[List.take_left,←Zjh]at cT;refine⟨_,rfl,?_,?_,rfl⟩
  ·have e:(Za1 ss).length=(Lib.compact (ss.map ofB)).length:=by simp[Za1]
   rw[e];exact cT
  ·exact grownBy_sorted (os:=#[]) _
theorem Zn1{W:World}{b:Nat}{l:List (ByteArray×Value)}(h:MapKV Value.string W b l)(hl:l.length<=1000000)(hk:∀p∈l,p.1.size<=1000000)(hg:W.cell? ⟨g,0,none⟩=some (.map (some b)))(ez:g<W.heap.size)(hw:w.heap.size<=W.heap.size):
  Calls prog 111 #[.func (.func 153) #[] #[P_ (some ⟨g,0,none⟩)]] W λr w'=>∃v,r=R_ v/\w'.ownsRow w.heap.size 9 1 v (ZaZ (l.map (·.1))).length ((ZaZ (l.map (·.1))).map Value.string)/\Below W.heap.size W w':=by
 obtain⟨es,clk,hb,eP,iz⟩:=h;have dS:es.toList.length=l.length:=by have:=congrArg List.length iz;simpa using this
 have j6:∀x∈es.toList,∃p∈l,x.key=.string p.1:=λx hx=>by
  have:(x.key,x.val)∈l.map λp=>(Value.string p.1,p.2):=by rw[←iz];exact List.mem_map_of_mem hx
  obtain⟨p,hp,he⟩:=List.mem_map.1 this;injection he with he _;exact⟨p,hp,he.symm⟩
 have hu:prog.underlying 9=some .string:=underlying9;have VS:∀s:ByteArray,s.size<=maxLen->keyOf prog 9 (.string s)=some (.string s.data.toList):=λs hs=>by
  simp[keyOf,hu,mapKey,hs]
 have fu:∀x∈es.toList,WideElems.rd (H:=Unit) prog 9 (λ_=>some (.nil,[])) x=some (.string (match x.key with | .string s=>s.data.toList|_=>[]),.nil):=λx hx=>by
  obtain⟨p,hp,he⟩:=j6 x hx;have:=hk p hp;simp[WideElems.rd,he,VS p.1 (by unfold maxLen;omega)]
 have Oj:es.size<=maxLen:=by
  have:es.size=es.toList.length:=ZM;unfold maxLen;omega
 have qR:WideElems.Fit (H:=Unit) prog 9 (λ_=>some (.nil,[])) es clk:=⟨Oj,eP,λx hx=>⟨_,fu x hx⟩⟩;have dk:W.ownsMap prog 9 (λ_=>some ((.nil:DataW Unit),[])) b es.size (.map ((es.toList.map (WideElems.rg prog 9 (λ_=>some (.nil,[])))).foldr DataW.insert [])):=⟨es,clk,hb,qR,ZL _,rfl⟩;have Ab:(strKeys (.map ((es.toList.map (WideElems.rg (H:=Unit) prog 9 (λ_=>some (.nil,[])))).foldr DataW.insert []))).Perm ((l.map (·.1)).map ofB):=by
  refine((Go.WideShapes.sorted_perm _).map _).trans ?_;have e:((es.toList.map (WideElems.rg (H:=Unit) prog 9 (λ_=>some (.nil,[])))).map λp=>strOf p.1)=(l.map (·.1)).map ofB:=by
   have h1:((es.toList.map (WideElems.rg (H:=Unit) prog 9 (λ_=>some (.nil,[])))).map λp=>strOf p.1)=(es.toList.map (λe=>(e.key,e.val))).map λp=>(match p.1 with | .string s=>s.data.toList|_=>[]):=by
    rw[List.map_map,List.map_map];refine List.map_congr_left λx hx=>?_
    simp only[Function.comp,WideElems.rg_of (fu x hx),strOf]
   rw[h1,iz,List.map_map,List.map_map];rfl
  rw[e]
 have lC:Maps.size (.map ((es.toList.map (WideElems.rg (H:=Unit) prog 9 (λ_=>some (.nil,[])))).foldr DataW.insert []))=l.length:=by
  rw[Maps.size_eq,(Go.WideShapes.sorted_perm _).length_eq,List.length_map,dS]
 have CM:SeqGives Fence.wide 2 prog 153 #[P_ (some ⟨g,0,none⟩)] encStr (λss=>ss.Perm (strKeys (.map ((es.toList.map (WideElems.rg (H:=Unit) prog 9 (λ_=>some (.nil,[])))).foldr DataW.insert [])))) (Maps.size (.map ((es.toList.map (WideElems.rg (H:=Unit) prog 9 (λ_=>some (.nil,[])))).foldr DataW.insert []))) W :=
  AnyZ.keys_gives (ρ := Tryz.keys112_ren) { Tryz.keys112 with } Fence.wide _ trivial rfl ZO g b es.size _ W ez hg dk
 have ra:∀m,AnyZ.SortsIn prog Tryz.sorted111_ren Fence.wide m:=λm =>
  ⟨λblk off cap ss W hH cH dS=>callsIn_wide.2 (AnyM.slices_Sort_string Tryz.sort152 blk off cap ss W hH cH dS),
   λp cap W=>callsIn_wide.2 (AnyM.slices_Sort_string_none Tryz.sort152 p cap W)⟩
 have hc:=AnyZ.sorted_in Tryz.sorted111 Fence.wide 5 trivial trivial trivial trivial rfl ZO (ra _) (enters_of func152 ZK rfl) 153 #[P_ (some ⟨g,0,none⟩)] trivial (enters_of func153 ZK rfl) _ _ (by rw[lC];unfold maxLen;omega) (by rw[lC];omega) _ CM;refine((callsIn_wide (n:=5)).1 hc).mono ?_;rintro r w' ⟨v,ss,rfl,hp,hr,_,cD⟩;have he:(ss.mergeSort λx y=>decide (x<=y))=(((l.map (·.1)).map ofB).mergeSort λx y=>decide (x<=y)):=mergeSort_of_perm (hp.trans Ab);refine⟨v,rfl,?_,cD⟩;have hlen:(ZaZ (l.map (·.1))).length=ss.length:=by
  rw[ZcC,(hp.trans Ab).length_eq];simp
 rw[hlen];unfold ZaZ;rw[Zjh,←he];exact Zj hr hw
end
def Zct(ws:List Ev)(key:ByteArray)(l9:Nat):List Ev:=ws.filter λe=>decide (e.key=key)&&decide (e.label=l9)
def Zm(ws:List Ev)(key:ByteArray)(l9:Nat):List Ev:=(Zct ws key l9).filter λe=>decide (e.kind=3)
def Z3(ws:List Ev)(key:ByteArray)(l9:Nat):List Ev:=(Zct ws key l9).filter λe => !decide (e.kind=3)
def Zdu(es:List Ev):List (Int×Int):=es.map λe=>((e.height:Int),(e.r:Int))
def ZhW(xs:List (Int×Int)):Nat:=xs.findIdx λx=>x==Zgb xs xs.length
theorem IsLast.eq{xs:List (Int×Int)}(h:IsLast xs k):ZhW xs=k:=by
 obtain⟨h1,h2,h3⟩:=h;have h0:0<xs.length:=ZO;obtain⟨j,hj,ej⟩:=Zja xs h0 xs.length (ZL _);have e:xs.getD k (0,0)=Zgb xs xs.length:=by
  refine ZoV _ _ ?_ (Zjb xs xs.length (ZL _) k h1);rw[←ej];exact h2 j hj
 unfold ZhW;rw[List.findIdx_eq h1];have gd:∀i (hi:i<xs.length),xs.getD i (0,0)=xs[i]:=λi hi=>by simp[List.getD,hi]
 refine⟨?_,λi hi=>?_⟩
 ·rw[←gd k h1,e];simp
 ·have:=h3 i hi;rw[e,gd i ZO]at this;simpa using this
def Zco(ws:List Ev)(key:ByteArray)(l9:Nat):ByteArray:=((Zm ws key l9)[ZhW (Zdu (Zm ws key l9))]?.map (·.value)).getD ⟨#[]⟩
def ZeV(ws:List Ev)(key:ByteArray)(l9:Nat):List ByteArray:=Za1 (ZaZ ((Z3 ws key l9).map (·.value)))
def Zd7(ws:List Ev)(key:ByteArray)(l9:Nat):Bool:=decide (0<(Zm ws key l9).length)
def Za2(key:ByteArray)(ws:List Ev):Con:=⟨key,Zd7 ws key 0,Zd7 ws key 1,Zco ws key 0,Zco ws key 1,ZeV ws key 0,ZeV ws key 1⟩
def Zbs(key:ByteArray)(ws:List Ev):Nat->Con
 | 0=>⟨key,false,false,⟨#[]⟩,⟨#[]⟩,[],[]⟩
 | 1=>⟨key,Zd7 ws key 0,false,Zco ws key 0,⟨#[]⟩,ZeV ws key 0,[]⟩
 |_=>Za2 key ws
theorem ZhP{ws:List Ev}{key:ByteArray}{l9:Nat}(h:Zm ws key l9=[]):Zco ws key l9=⟨#[]⟩:=by simp[Zco,h]
def ZbH(es:List Ev):List Value:=es.flatMap λe=>[I_ J_ (e.height:Int),I_ J_ (e.r:Int)]
def Zb0(es:List Ev):List Value:=es.map λe=>Value.string e.value
theorem Zn2(es:List Ev):(ZbH es).length=es.length*2:=by
 induction es with
 |nil=>rfl
 |cons e es ih=>simp only[ZbH,List.flatMap_cons,ZI,List.length_cons,List.length_nil]at ih ⊢;omega
section
variable {w w':World}{B B':Nat}{e e':TypeId}{sz PL n n':Nat}{v v' v7:Value}{xs PT:List Value}{r:Option Nat}
theorem Za6(h:w.ownsRow B e sz v n xs)(h':w.ownsRow B' e' PL v' n' PT)(dR:e≠e'):Apart v v':=by
 intro g hg ll;rcases h.2 with ⟨h0,_⟩|⟨g1,c1,FB,h1,_,cz,_⟩
 ·subst h0;cases hg
 rcases h'.2 with ⟨Vf,_⟩|⟨g2,c2,cur2,h2,_,cD,_⟩
 ·subst Vf;cases ll
 subst h1 h2;injection hg with hg;injection ll with ll;subst hg;subst ll;rw[cz]at cD;injection cD with cD;injection cD with _ cD _;exact dR cD
theorem Apart.symm(h:Apart v v'):Apart v' v:=λg h1 h2=>h g h2 h1
theorem ZaK(h:w.ownsRow B e sz v n xs)(hg:w.grownBy w' v'.ownBlock)(ha:Apart v v'):w'.ownsRow B e sz v n xs :=
 Zi h λg ll hl=>hg.block g hl λhe=>ha g ll he.symm
theorem Zfd(ha:Apart v v')(h':w.ownsRow B e sz v' n xs)(iy:v7.ownBlock=v.ownBlock∨v7.ownBlock=some w.heap.size):Apart v7 v':=by
 intro g hg ll;rcases iy with h|h
 ·exact ha g (h.symm.trans hg) ll
 ·rw[h]at hg;injection hg with hg;have:=(Zb h' ll).2;omega
theorem ZhG(k c:Nat)(v':Value):Apart (S_ none k c) v':=λg h=>by cases h
theorem Zdk{cs:Array Value}(hb:Blk w g t cs)(h:w.ownsRow B e sz v n xs)(dR:e≠t)(hg:w.grownBy w' v.ownBlock):Blk w' g t cs :=
 hb.grown hg (Ne.symm (Zr h hb dR))
end
structure Past(B pc:Nat)(w w':World):Prop where
 os:w'.os=w.os
 tape:w'.tape=w.tape
 output:w'.output=w.output
 size:w.heap.size<=w'.heap.size
 block:∀k,k<B->k≠pc->w'.heap[k]? = w.heap[k]?
section
variable {B pc:Nat}{w w1 w':World}
theorem Past.bA(h:Kept B w w')(hs:w.heap.size<=w'.heap.size):Past B pc w w':=⟨h.below.os,h.below.tape,h.below.output,hs,λk hk _=>h.below.block k hk⟩
theorem Past.set(h:Past B pc w w1)(i:Nat)(u:Value):Past B pc w (w1.setCell ⟨pc,i,none⟩ u) :=
 ⟨h.os,h.tape,h.output,by simpa [World.setCell] using h.size,λk hk hn=>(Below.heap_setCell _ _ _ _ hn).trans (h.block k hk hn)⟩
theorem Past.grown(h:Past B pc w w1){r:Option Nat}(hg:w1.grownBy w' r)(hB:B<=w1.heap.size)(hr:∀g,r=some g->B<=g):Past B pc w w' :=
 ⟨hg.os.trans h.os,hg.tape.trans h.tape,hg.output.trans h.output,ZT h.size hg.size,λk hk hn=>(hg.block k (ZR hk hB) (λe=>by have:=hr k e.symm;omega)).trans (h.block k hk hn)⟩
theorem Past.below(h:Past B pc w w1)(hb:Below w1.heap.size w1 w')(hB:B<=w1.heap.size):Past B pc w w':=h.grown (r:=none) ⟨hb.os,hb.tape,hb.output,hb.size,λk hk _=>hb.block k hk⟩ hB (λg e=>by cases e)
theorem Past.kept{A:Nat}{w0:World}(h:Past B pc w w')(hk:Kept A w0 w)(hA:A<=B)(hp:A<=pc):Kept A w0 w' :=
 ⟨⟨h.os.trans hk.below.os,h.tape.trans hk.below.tape,h.output.trans hk.below.output,ZT hk.below.size h.size,λk i6=>(h.block k ZO ZO).trans (hk.below.block k i6)⟩,ZT hk.le h.size⟩
theorem Past.row{A:Nat}{e:TypeId}{sz:Nat}{xs:List Value}(h:Past B pc w w')(hr:w.ownsRow A e sz v n xs)(hB:w.heap.size<=B){cs:Array Value}(hb:Blk w pc t cs)(dR:e≠t):w'.ownsRow A e sz v n xs :=
 Zi hr λg hg hl=>h.block g ZO (λe'=>Zr hr hb dR (by rw[hg,e']))
theorem Past.blk{cs:Array Value}(h:Past B pc w w')(hb:Blk w g t cs)(hB:w.heap.size<=B)(dR:g≠pc):Blk w' g t cs:=(h.block g (by have:=hb.lt;omega) dR).trans hb
end
def Zcc(l:List (Nat×Nat)):List Value:=l.flatMap λp=>[I_ J_ (p.1:Int),I_ J_ (p.2:Int)]
def Zbu(es:List Ev):List (Nat×Nat):=es.map λe=>(e.r,e.n)
theorem Zl{B:Nat}{e:TypeId}{sz:Nat}{xs:List Value}(h:w.ownsRow B e sz v n xs):∃a c,v=S_ a n c:=by
 rcases h.2 with ⟨h1,h2⟩|⟨g,cp,_,h1,_⟩
 ·exact⟨none,0,by rw[h2];exact h1⟩
 ·exact⟨_,cp,h1⟩
theorem ZtZ:(prog.info? 161).map (λi=>(i.zero,i.size,i.bytes))=some (some (.agg #[I_ J_ 0,I_ J_ 0]),2,16):=ZK
theorem Zj0{es:List Ev}(hs:EvSl w a n cap es)(hn:n<=1000000):
  Calls prog 77 #[S_ a n cap] w λr w'=>∃v,r=R_ v/\w'.ownsRow w.heap.size 161 2 v n (Zcc (Zbu es))/\L_ w w':=by
 obtain⟨i0,hi,dd,cV,dc⟩:=info_parts ZtZ;obtain⟨gb,HS⟩:=ZH2 (hs.2.2.1) hs;have HO:Hid (w.ownsRow w.heap.size 161 2 (S_ none 0 0) 0 (Zcc (Zbu (es.take 0)))):=ZH ⟨rfl,.inl ⟨rfl,rfl⟩⟩;have HK:=ZH (ZKr w);clear hs;go_enter func77,ntmps77;go_wp2_with fail;go_loopw [3,8] (λv i wr=>∃q:Nat,q<=n/\i=I_ J_ q/\Hid (wr.ownsRow w.heap.size 161 2 v q (Zcc (Zbu (es.take q))))/\Hid (K_ w wr)) (λ_ i _=>n-(intOf i).toNat)
 case atStart=>exact⟨0,ZO,rfl,HO,HK⟩
 case round =>
  skip
  obtain⟨q,hq,rfl,HO,HK⟩:=hrel;obtain⟨av,cv,rfl⟩:=Zl HO.out;by_cases du:q<n
  ·obtain⟨e,he⟩:∃e,es[q]? = some e:=⟨_,ZX (by rw[gb.out];exact du)⟩;have iP:=HS.out.below HK.out.below;obtain⟨bk,off,rfl,cW,c0,c1,c2,c3,c4,c5,c6,c7,c8,c9,dg,dh⟩:=iP.at_ he;have iC:Zcc (Zbu (es.take (q+1)))=Zcc (Zbu (es.take q))++[I_ J_ (e.r:Int),I_ J_ (e.n:Int)]:=by
    rw[Zan he];simp[Zbu,Zcc]
   have hx:=ZBn wr 89 (evArr e);obtain⟨x0,x1,x2,x3,x4,x5,x6,x7,x8,x9,fh,fi⟩:=hx.ag;have iX:=ZH ((HO.out.alloc (C_ (evArr e) 89)).alloc (C_ #[I_ J_ (e.r:Int),I_ J_ (e.n:Int)] 161));have cX:=(HK.out.alloc (C_ (evArr e) 89)).alloc (C_ #[I_ J_ (e.r:Int),I_ J_ (e.n:Int)] 161);have iT:Hid (Reads ((wr.alloc (C_ (evArr e) 89)).alloc (C_ #[I_ J_ (e.r:Int),I_ J_ (e.n:Int)] 161)) _ 2 (some ⟨wr.heap.size+1,0,none⟩) 1 [I_ J_ (e.r:Int),I_ J_ (e.n:Int)]):=ZH (Reads.aA (Zag wr _ _ _) rfl);have eE:=cX.le;obtain⟨fy,cO⟩:=ZH2 iC cX
   have gn:Hid (∀u∈[Value.int .i64 (e.r:Int),I_ J_ (e.n:Int)],u.oneCell'=true):=ZH (λu hu=>by
    simp at hu
    rcases hu with rfl|rfl <;> rfl)
   clear iP he iC hx cX
   go_wp2_with (first
    |(at_builtin
      refine Zc _ rfl (.tmp 12) (.tmp 18) _ rfl w.heap.size 161 i0 _ 2 16 underlying45 hi dd cV dc rfl ZO (S_ av q cv) q (Zcc (Zbu (es.take q))) rfl iX.out _ (some ⟨wr.heap.size+1,0,none⟩) 1 1 [I_ J_ (e.r:Int),I_ J_ (e.n:Int)] rfl iT.out gn.out ZF ZO eE ?_;intro v7 w7 cF db _;rw[←fy.out]at cF;have fx:Hid (K_ w w7):=ZH (⟨cO.out.below.grown db cO.out.le (λg hg=>(Zb iX.out hg).1),ZT cO.out.le db.size⟩);have iG:=ZH cF
      clear cF db ))
   go_roundw
   case rel=>exact⟨q+1,ZO,ZN,iG,fx⟩
   case measure=>simp[intOf];omega
  ·obtain rfl:q=n:=ZO;rw[ZU (by rw[gb.out];exact ZL _)]at HO;go_wp2
   go_ret;exact⟨_,rfl,HO.out,HK.out.below⟩
end Go.Proofs.YtjkfognelhiepaaGreat
