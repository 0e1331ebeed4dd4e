import Derived.Test.YtjkfognelhiepaaGreatC03
import Derived.Carry
import Derived.Deep.Cut
import Derived.Lib.AppendZeros
import Derived.Lib.SliceRun
namespace Go.Proofs.YtjkfognelhiepaaGreat
open Go.RowKit _root_.Go.Proofs.Tryz
set_option maxRecDepth 100000
set_option maxHeartbeats 8000000
theorem Zge(e:Ev)(w:World):Calls prog 188 #[Zaa e] w (Zv (Zbx e.r e.n) w):=by
 go_enter func188,ntmps188;go_wp2_with fail;refine bodyPost_end (Zac rfl rfl (run_loadVar_row _ _ _ _ _ _ _ (Z6 _ _ _ _) underlying161 rfl ZK)) rfl ?_;exact⟨rfl,Zbu _ _ _⟩
def Zcc(c:Clk)(l:List Ev)(r:Nat):Option Ev :=
 match Zb1 r (c.get r+1) l with
 | some e=>if e.ctx.le c then some e else none
 | none=>none
def Zbr(c:Clk)(l:List Ev):Option Ev:=(List.range 5).findSome? (Zcc c l)
theorem Zlu{c:Clk}{l:List Ev}{k:Nat}{e:Ev}(hk:k<5)(h:∀ j,j<k->Zcc c l j=none)(he:Zcc c l k=some e):Zbr c l=some e:=by
 unfold Zbr;rw[show List.range 5=[0,1,2,3,4] from rfl]
 match k,hk with
 | 0,_=>simp[he]
 | 1,_=>simp[h 0 ZO,he]
 | 2,_=>simp[h 0 ZO,h 1 ZO,he]
 | 3,_=>simp[h 0 ZO,h 1 ZO,h 2 ZO,he]
 | 4,_=>simp[h 0 ZO,h 1 ZO,h 2 ZO,h 3 ZO,he]
theorem ZiR{c:Clk}{l:List Ev}(h:∀ j,j<5->Zcc c l j=none):Zbr c l=none:=by
 unfold Zbr;rw[show List.range 5=[0,1,2,3,4] from rfl];simp[h 0 ZO,h 1 ZO,h 2 ZO,h 3 ZO,h 4 ZO]
theorem Zif{r n:Nat}{l:List Ev}{e:Ev}(h:Zb1 r n l=some e):e∈l/\e.r=r/\e.n=n:=by
 have h1:=List.mem_of_find?_eq_some h;have h2:=List.find?_some h;simp only[decide_eq_true_eq] at h2;exact⟨h1,h2⟩
theorem MapEv.lt{w:World}{b:Nat}{l:List Ev}(h:MapEv w b l):b<w.heap.size:=by
 obtain⟨es,clk,hb,_⟩:=h;rcases Nat.lt_or_ge b w.heap.size with h | h
 ·exact h
 ·rw[Array.getElem?_eq_none h] at hb;cases hb
theorem MapEv.of_same{w w':World}{b:Nat}{l:List Ev}(h:MapEv w b l)(hk:w'.heap[b]? = w.heap[b]?):MapEv w' b l:=by
 obtain⟨es,clk,hb,he⟩:=h;exact⟨es,clk,hk.trans hb,he⟩
theorem MapEv.below{w w':World}{b:Nat}{l:List Ev}(h:MapEv w b l)(hb:Below w.heap.size w w'):MapEv w' b l:=h.of_same (hb.block b h.lt)
def Zp0(o:Option Ev)(w:World)(e:Ending)(w':World):Prop:=e = .returned (match o with | some v => .tuple #[Zaa v,.bool true] | none => .tuple #[.agg Zj,.bool false])/\Below w.heap.size w w'
theorem ZiS(c:Clk)(l:List Ev)(b:Nat)(w:World)(h:MapEv w b l)(hc:∀ i,c.get i<=2000000):
  Calls prog 189 #[Za2 c,.map (some b)] w (Zp0 (Zbr c l) w):=by
 obtain⟨HA,HB,HK,HM,HC⟩:=ZH5 ((ZBn w 44 (clkArr c)).alloc (.cells Zj 89)) (Z6 w (.cells (clkArr c) 44) 89 Zj) (((ZKr w).alloc (.cells (clkArr c) 44)).alloc (.cells Zj 89)) h hc;obtain⟨O,hO⟩:∃ O,O=Zbr c l:=⟨_,rfl⟩;rw[←hO];have HO:=ZH hO;have fk:=h.lt;clear h hc hO;go_enter func189,ntmps189;go_wp2_with fail;go_loopw [9] (λ i wr=>∃ k:Nat,k<=5/\i = .int .i64 k/\Hid (∀ j,j<k->Zcc c l j=none)/\Hid (Blk wr w.heap.size 44 (clkArr c))/\Hid (Blk wr (w.heap.size+1) 89 Zj)/\Hid (Kept w.heap.size w wr)) (λ i _=>5-(intOf i).toNat)
 case atStart=>exact⟨0,ZO,rfl,ZH (λ j hj=>ZO),HA,HB,HK⟩
 case round =>
  clear HA HB HK;obtain⟨k,hk,rfl,HL,HA,HB,HK⟩:=hrel;by_cases ef:k<5
  ·have ca:=HA.out.clk ef;have eb:=HC.out k;have hm:=HM.out.of_same (HK.out.below.block b fk);have kV:=Zd5 hm k (c.get k+1);have e1:((c.get k+1:Nat):Int)=(c.get k:Int)+1:=ZO;simp only[Zbx,e1] at kV;clear hm e1;rcases mw:Zb1 k (c.get k+1) l with _ | e
   ·rw[mw] at kV;have hn:∀ j,j<k+1->Zcc c l j=none:=λ j hj=>by
     rcases Nat.lt_or_ge j k with h | h
     ·exact HL.out j h
     ·obtain rfl:j=k:=ZO;unfold Zcc;rw[mw]
    have HN:=ZH hn;clear hn mw;have ql:=HA.out.alloc (.cells Zj 89);have dd:=HB.out.alloc (.cells Zj 89);have gm:=HK.out.alloc (.cells Zj 89);obtain⟨pi,cH,cr⟩:=ZH3 ql dd gm;clear ql dd gm;go_wp2
    go_roundw
    case rel=>exact⟨k+1,ZO,ZN,HN,pi,cH,cr⟩
    case measure=>simp[intOf];omega
   ·rw[mw] at kV;obtain⟨fl,oZ,mJ⟩:=Zif mw;have qB:1<=e.n:=ZO;have my:decide ((e.n:Int)>=1)=true:=ZP;have ql:=HA.out.alloc (.cells (evArr e) 89);have dd:=HB.out.alloc (.cells (evArr e) 89);have CC:=ZH (ZBn wr 89 (evArr e));have gm:=HK.out.alloc (.cells (evArr e) 89);obtain⟨pi,cH,cr⟩:=ZH3 ql dd gm;obtain⟨k0,k1,k2,k3,k4⟩:=HA.out.aE;have A6:=HA.out.lt;clear ql dd gm;have CN:=ZH mw;clear mw fl oZ mJ;go_wp2_with fail;refine(ZnL e.ctx c _).mono ?_;rintro r w2 ⟨rfl,bW⟩;obtain⟨BL,dj,ul,cC⟩:=ZH4 (pi.out.ob bW) (cH.out.ob bW) (CC.out.ob bW) (cr.out.step bW);clear bW k0 k1 k2 k3 k4 ca;rcases fc:e.ctx.le c with _ | _
    ·have hn:∀ j,j<k+1->Zcc c l j=none:=λ j hj=>by
      rcases Nat.lt_or_ge j k with h | h
      ·exact HL.out j h
      ·obtain rfl:j=k:=ZO;unfold Zcc;rw[CN.out];simp[fc]
     have HN:=ZH hn;clear hn fc;go_wp2
     go_roundw
     case rel=>exact⟨k+1,ZO,ZN,HN,BL,dj,cC⟩
     case measure=>simp[intOf];omega
    ·have K2:O=some e:=by
      rw[HO.out];have:Zcc c l k=some e:=by unfold Zcc;rw[CN.out];simp[fc]
      exact Zlu ef HL.out this
     subst K2;obtain⟨d0,d1,d2,d3,d4,d5,d6,d7,d8,d9,xV,sZ⟩:=ul.out.ae;obtain⟨g0,g1,g2,g3,g4,g5,g6,g7,g8,g9,BV,KJ⟩:=dj.out.ae;have fo:=dj.out.frozen;have f0:=fo 0;have f1:=fo 1;have f2:=fo 2;have f3:=fo 3;have f4:=fo 4;have f5:=fo 5;have f6:=fo 6;have f7:=fo 7;have f8:=fo 8;have f9:=fo 9;have f10:=fo 10;have f11:=fo 11;have np:=dj.out.lt;clear fc fo;go_wp2_with fail;have dx:=Zaw (vs:=evArr e) dj.out rfl;have rB:=ZaB cC.out (g:=w.heap.size+1) ZO 0 (evArr e).toList;refine bodyPost_ret (w:=setAll w2 (w.heap.size+1) 0 (evArr e).toList) (Zn rfl rfl rfl (run_loadVar_row _ _ _ _ _ _ _ dx underlying89 rfl ZK)) rfl ?_;exact⟨rfl,rB.below⟩
  ·obtain rfl:k=5:=ZO;have K2:O=none:=by
    rw[HO.out];exact ZiR HL.out
   subst K2;obtain⟨g0,g1,g2,g3,g4,g5,g6,g7,g8,g9,BV,KJ⟩:=HB.out.ae;have fo:=HB.out.frozen;have f0:=fo 0;have f1:=fo 1;have f2:=fo 2;have f3:=fo 3;have f4:=fo 4;have f5:=fo 5;have f6:=fo 6;have f7:=fo 7;have f8:=fo 8;have f9:=fo 9;have f10:=fo 10;have f11:=fo 11;have np:=HB.out.lt;clear fo;go_wp2_with fail;have dx:=Zaw (vs:=Zj) HB.out rfl;have rB:=ZaB HK.out (g:=w.heap.size+1) ZO 0 Zj.toList;refine bodyPost_ret (w:=setAll wr (w.heap.size+1) 0 Zj.toList) (Zn rfl rfl rfl (run_loadVar_row _ _ _ _ _ _ _ dx underlying89 rfl ZK)) rfl ?_;exact⟨rfl,rB.below⟩
section
theorem Zbv:(prog.info? 89).map (λ i=>(i.zero,i.size,i.bytes))=some (some (.agg Zj),12,112):=ZK
def Zc3(c:Clk)(iI:List Ev)(e:Ev):List Ev:=if (Zb1 e.r e.n iI).isNone && !c.has e.r e.n then iI++[e] else iI
def Zaf(c:Clk)(l:List Ev):List Ev:=l.foldl (Zc3 c) []
def Za7:Nat->Clk->List Ev->List Ev->List Ev × List Ev × Clk
 | 0,c,w,d=>(d,w,c)
 | f+1,c,w,d =>
  match Zbr c w with
  | some e=>Za7 f (c.set e.r (c.get e.r+1)) (Zdp e.r e.n w) (d++[e])
  | none=>(d,w,c)
def Zb3(o w:List Ev):List Ev:=o.filter λ e=>(Zb1 e.r e.n w).isSome
def drained(c:Clk)(l:List Ev):List Ev × List Ev × Clk:=Za7 (Zaf c l).length c (Zaf c l) []
theorem Zlb(c:Clk)(l:List Ev)(e:Ev):Zaf c (l++[e])=Zc3 c (Zaf c l) e:=by simp[Zaf]
theorem Zer(c:Clk):∀ (l iI:List Ev),∀ x∈l.foldl (Zc3 c) iI,x∈iI∨x∈l
 | [],iI,x,h => .inl h
 | e::l,iI,x,h=>by
  rcases Zer c l _ x h with h | h
  ·unfold Zc3 at h;split at h
   ·simp only[List.mem_append,List.mem_cons,List.not_mem_nil,or_false] at h;rcases h with h | rfl
    ·exact .inl h
    ·exact .inr ZM
   ·exact .inl h
  ·exact .inr (by simp[h])
theorem Zeq(c:Clk):∀ (l iI:List Ev),(l.foldl (Zc3 c) iI).length<=iI.length+l.length
 | [],iI=>ZM
 | e::l,iI=>by
  have:=Zeq c l (Zc3 c iI e);have h2:(Zc3 c iI e).length<=iI.length+1:=by unfold Zc3;split <;> simp
  simp only[List.foldl_cons,List.length_cons];omega
structure DS(w W:World)(c:Clk)(m:List Ev)(v8:Value)(o:List Ev):Prop where
 clk:Blk W w.heap.size 44 (clkArr c)
 out:Blk W (w.heap.size+1) 44 #[.int .i64 0,.int .i64 0,.int .i64 0,.int .i64 0,.int .i64 0]
 map:MapEv W (w.heap.size+1+1) m
 row:W.ownsRow w.heap.size 89 12 v8 o.length (evCells o)
 kept:Kept w.heap.size w W
section
variable {w W W':World}{c:Clk}{m o:List Ev}{v8:Value}
theorem DS.below(h:DS w W c m v8 o)(hb:Below W.heap.size W W'):DS w W' c m v8 o :=
 ⟨h.clk.ob hb,h.out.ob hb,h.map.below hb,Ze h.row hb,h.kept.step hb⟩
theorem DS.alloc(h:DS w W c m v8 o)(x:Obj):DS w (W.alloc x) c m v8 o:=h.below ((ZW _ _).alloc (ZL _) x)
theorem DS.drewN(h:DS w W c m v8 o)(k:Nat):DS w (W.drewN k) c m v8 o:=⟨h.clk,h.out,h.map,h.row,h.kept.drewN k⟩
theorem ZeQ(h:W.ownsRow w.heap.size 89 12 v8 o.length (evCells o)){b:Nat}(hm:MapEv W b m):v8.ownBlock≠some b:=by
 intro e;obtain⟨es,clk,hb,_⟩:=hm;rcases h.2 with ⟨rfl,_⟩|⟨g,cap,cur,rfl,_,hh,_⟩
 ·cases e
 ·injection e with e
  have e':g=b:=e;subst e';rw[hb] at hh
  cases hh
theorem DS.mapped{m':List Ev}(h:DS w W c m v8 o)(hg:W.grownBy W' (some (w.heap.size+1+1)))(hm:MapEv W' (w.heap.size+1+1) m'):DS w W' c m' v8 o :=
 ⟨h.clk.grown hg ZP,h.out.grown hg ZM,hm,h.row.kept hg (.inr (ZeQ h.row h.map)),⟨h.kept.below.grown hg h.kept.le (λ k hk=>by injection hk;omega),ZT h.kept.le hg.size⟩⟩
theorem Zds{t:TypeId}{cs:Array Value}(h:W.ownsRow w.heap.size 89 12 v8 o.length (evCells o)){b:Nat}(hb:Blk W b t cs)(ht:89≠t):v8.ownBlock≠some b:=Zo h hb ht
theorem DS.aI{v':Value}{e:Ev}(h:DS w W c m v8 o)(hg:W.grownBy W' v8.ownBlock)(hr:W'.ownsRow w.heap.size 89 12 v' (o.length+1) (evCells o++(evArr e).toList)):DS w W' c m v' (o++[e]):=by
 refine⟨h.clk.grown hg (Ne.symm (Zds h.row h.clk ZJ)),h.out.grown hg (Ne.symm (Zds h.row h.out ZJ)),h.map.of_same (hg.block _ h.map.lt (Ne.symm (ZeQ h.row h.map))),?_,⟨h.kept.below.grown hg h.kept.le (λ k hk=>(Zb h.row hk).1),ZT h.kept.le hg.size⟩⟩;have e1:evCells (o++[e])=evCells o++(evArr e).toList:=by simp[evCells]
 rw[e1,ZI];exact hr
end
abbrev RowE(w W:World)(v:Value)(es:List Ev):Prop:=W.ownsRow w.heap.size 89 12 v es.length (evCells es)
def Apart(v v':Value):Prop:=∀ g,v.ownBlock=some g->v'.ownBlock≠some g
section
variable {w W W':World}{c:Clk}{m o es:List Ev}{v v8 v':Value}
theorem DS.other(h:DS w W c m v8 o)(hr:RowE w W v es)(hg:W.grownBy W' v.ownBlock)(ha:Apart v v8):DS w W' c m v8 o :=
 ⟨h.clk.grown hg (Ne.symm (Zds hr h.clk ZJ)),h.out.grown hg (Ne.symm (Zds hr h.out ZJ)),h.map.of_same (hg.block _ h.map.lt (Ne.symm (ZeQ hr h.map))),
  Zh h.row (λ g h1 h2=>hg.block g h2 (λ e=>ha g e.symm h1)),⟨h.kept.below.grown hg h.kept.le (λ k hk=>(Zb hr hk).1),ZT h.kept.le hg.size⟩⟩
theorem Apart.fresh(ha:Apart v v8)(hr:RowE w W v8 o)(hv:v'.ownBlock=v.ownBlock∨v'.ownBlock=some W.heap.size):Apart v' v8:=by
 intro g h1 h2;rcases hv with e | e
 ·exact ha g (e.symm.trans h1) h2
 ·rw[e] at h1;injection h1 with h1;have:=(Zb hr h2).2;omega
theorem Zg7{g:Nat}(hr:RowE w W v8 o)(hg:W.heap.size<=g):v8.ownBlock≠some g:=λ e=>by
 have:=(Zb hr e).2;omega
theorem RowE.kept(hr:RowE w W v8 o)(hg:W.grownBy W' v.ownBlock)(ha:Apart v v8):RowE w W' v8 o:=Zh hr (λ g h1 h2=>hg.block g h2 (λ e=>ha g e.symm h1))
theorem RowE.snoc{e:Ev}(hr:W.ownsRow w.heap.size 89 12 v (es.length+1) (evCells es++(evArr e).toList)):RowE w W v (es++[e]):=by
 have e1:evCells (es++[e])=evCells es++(evArr e).toList:=by simp[evCells]
 unfold RowE;rw[e1,ZI];exact hr
end
def optArr(x:Option Ev):Array Value:=evArr (x.getD Ev.zero)
structure DL(w W:World)(c:Clk)(m:List Ev)(v8:Value)(o:List Ev)(v4:Value)(d:List Ev)(g:Nat)(x:Option Ev):Prop where
 ds:DS w W c m v8 o
 done:RowE w W v4 d
 apart:Apart v4 v8
 box:Blk W g 89 (optArr x)
 ne4:v4.ownBlock≠some g
 ne8:v8.ownBlock≠some g
 glo:w.heap.size+1+1<g
section
variable {w W W':World}{c:Clk}{m o d:List Ev}{v8 v4 v':Value}{g:Nat}{x:Option Ev}
theorem DL.below(h:DL w W c m v8 o v4 d g x)(hb:Below W.heap.size W W'):DL w W' c m v8 o v4 d g x :=
 ⟨h.ds.below hb,Ze h.done hb,h.apart,h.box.ob hb,h.ne4,h.ne8,h.glo⟩
theorem DL.alloc(h:DL w W c m v8 o v4 d g x)(ob:Obj):DL w (W.alloc ob) c m v8 o v4 d g x:=h.below ((ZW _ _).alloc (ZL _) ob)
theorem DL.aI{e:Ev}(h:DL w W c m v8 o v4 d g x)(hg:W.grownBy W' v4.ownBlock)(hr:W'.ownsRow w.heap.size 89 12 v' (d.length+1) (evCells d++(evArr e).toList))(hv:v'.ownBlock=v4.ownBlock∨v'.ownBlock=some W.heap.size):DL w W' c m v8 o v' (d++[e]) g x :=
 ⟨h.ds.other h.done hg h.apart,RowE.snoc hr,h.apart.fresh h.ds.row hv,h.box.grown hg (Ne.symm h.ne4),λ e=>by
  rcases hv with e' | e'
  ·exact h.ne4 (e'.symm.trans e)
  ·rw[e'] at e;injection e with e;have:=h.box.lt;omega,h.ne8,h.glo⟩
theorem DL.mapped{m':List Ev}(h:DL w W c m v8 o v4 d g x)(hg:W.grownBy W' (some (w.heap.size+1+1)))(hm:MapEv W' (w.heap.size+1+1) m'):DL w W' c m' v8 o v4 d g x :=
 ⟨h.ds.mapped hg hm,h.done.kept (v := .slice (some ⟨w.heap.size+1+1,0,none⟩) 0 0) hg (λ k h1 h2=>by
  injection h1 with h1
  have DZ:w.heap.size+1+1=k:=h1;subst DZ
  exact ZeQ h.done h.ds.map h2),h.apart,h.box.grown hg (by have:=h.glo;intro e;injection e;omega),h.ne4,h.ne8,h.glo⟩
theorem DL.bG(h:DL w W c m v8 o v4 d g x)(i:Nat)(hi:i<5)(y:Nat):DL w (W.setCell ⟨w.heap.size,i,none⟩ (.int .i64 y)) (c.set i y) m v8 o v4 d g x:=by
 have hg:=h.glo;have eX:=h.ds.clk.ai i (.int .i64 (y:Int));rw[ZeJ c hi] at eX;have far:=λ(k:Nat) (hk:k≠w.heap.size)=>Below.heap_setCell W ⟨w.heap.size,i,none⟩ (.int .i64 (y:Int)) k hk
 have rows:∀ (v:Value) (es:List Ev),RowE w W v es->RowE w (W.setCell ⟨w.heap.size,i,none⟩ (.int .i64 y)) v es:=λ v es hr=>Zh hr (λ k h1 _=>far k (λ e=>Zds hr h.ds.clk ZJ (by rw[h1,e])))
 exact⟨⟨eX,h.ds.out.far ZM _,h.ds.map.of_same (far _ ZO),rows _ _ h.ds.row,h.ds.kept.setCell (ZL _) _⟩,rows _ _ h.done,h.apart,h.box.far (by show g≠w.heap.size;omega) _,h.ne4,h.ne8,h.glo⟩
theorem DL.bL{x':Option Ev}(h:DL w W c m v8 o v4 d g x):DL w (W.alloc (.cells (optArr x') 89)) c m v8 o v4 d W.heap.size x' :=
 ⟨h.ds.alloc _,Ze h.done ((ZW _ _).alloc (ZL _) _),h.apart,ZBn W 89 _,Zg7 h.done (ZL _),Zg7 h.ds.row (ZL _),by have:=h.box.lt;have:=h.glo;omega⟩
theorem DL.aZ{x':Option Ev}(h:DL w W c m v8 o v4 d g x)(hs:(optArr x').size=(optArr x).size):DL w (setAll W g 0 (optArr x').toList) c m v8 o v4 d g x':=by
 have hg:=h.glo;have hb:=Zaw (vs:=optArr x') h.box hs;have h2:=h.ds.kept;have far:=λ(k:Nat) (hk:k≠g)=>Zaj hk (optArr x').toList 0 W
 have rows:∀ (v:Value) (es:List Ev),RowE w W v es->v.ownBlock≠some g->RowE w (setAll W g 0 (optArr x').toList) v es:=λ v es hr hn=>Zh hr (λ k h1 _=>far k (λ e=>hn (by rw[h1,e])))
 exact⟨⟨(far _ ZO).trans h.ds.clk,(far _ ZO).trans h.ds.out,h.ds.map.of_same (far _ ZO),rows _ _ h.ds.row h.ne8,ZaB h2 ZO _ _⟩,rows _ _ h.done h.ne4,h.apart,hb,h.ne4,h.ne8,h.glo⟩
end
theorem Zmt(x y:Option Ev):(optArr x).size=(optArr y).size:=rfl
theorem RowE.sl{w W:World}{a:Option Addr}{n cap:Nat}{es:List Ev}(h:RowE w W (.slice a n cap) es):EvSl W a n cap es:=by
 have hn:n=es.length:=by
  rcases h.2 with ⟨h1,h2⟩|⟨g,cp,cur,h1,_⟩
  ·injection h1 with _ h1 _;omega
  ·injection h1 with _ h1 _
 subst hn;obtain⟨a',cap',h1,h2⟩:=EvSl.ab h;injection h1 with h1 h3 h4;rw[h1,h4];exact h2
theorem ZnJ(o w:List Ev)(e:Ev):Zb3 (o++[e]) w=Zb3 o w++if (Zb1 e.r e.n w).isSome=true then [e] else []:=by
 unfold Zb3;rw[List.filter_append];by_cases h:(Zb1 e.r e.n w).isSome=true <;> simp[h]
structure D3(w W:World)(c:Clk)(m:List Ev)(v8:Value)(o:List Ev)(v4:Value)(d:List Ev)(v5:Value)(lf:List Ev):Prop where
 ds:DS w W c m v8 o
 done:RowE w W v4 d
 left:RowE w W v5 lf
 a58:Apart v5 v8
 a54:Apart v5 v4
section
variable {w W W':World}{c:Clk}{m o d lf:List Ev}{v8 v4 v5 v':Value}
theorem D3.below(h:D3 w W c m v8 o v4 d v5 lf)(hb:Below W.heap.size W W'):D3 w W' c m v8 o v4 d v5 lf:=⟨h.ds.below hb,Ze h.done hb,Ze h.left hb,h.a58,h.a54⟩
theorem D3.alloc(h:D3 w W c m v8 o v4 d v5 lf)(ob:Obj):D3 w (W.alloc ob) c m v8 o v4 d v5 lf:=h.below ((ZW _ _).alloc (ZL _) ob)
theorem D3.aI{e:Ev}(h:D3 w W c m v8 o v4 d v5 lf)(hg:W.grownBy W' v5.ownBlock)(hr:W'.ownsRow w.heap.size 89 12 v' (lf.length+1) (evCells lf++(evArr e).toList))(hv:v'.ownBlock=v5.ownBlock∨v'.ownBlock=some W.heap.size):D3 w W' c m v8 o v4 d v' (lf++[e]) :=
 ⟨h.ds.other h.left hg h.a58,h.done.kept hg h.a54,RowE.snoc hr,h.a58.fresh h.ds.row hv,h.a54.fresh h.done hv⟩
end
theorem D3.finish{w W:World}{c:Clk}{m o d lf:List Ev}{v8 v4 v5:Value}(h:D3 w W c m v8 o v4 d v5 lf):
  Blk (setAll W (w.heap.size+1) 0 (clkArr c).toList) (w.heap.size+1) 44 (clkArr c)/\RowE w (setAll W (w.heap.size+1) 0 (clkArr c).toList) v4 d/\RowE w (setAll W (w.heap.size+1) 0 (clkArr c).toList) v5 lf/\Kept w.heap.size w (setAll W (w.heap.size+1) 0 (clkArr c).toList):=by
 have hb:=Zaw (vs:=clkArr c) h.ds.out rfl;have hk:=ZaB h.ds.kept (g:=w.heap.size+1) ZO 0 (clkArr c).toList;have far:=λ(k:Nat) (hk:k≠w.heap.size+1)=>Zaj hk (clkArr c).toList 0 W
 have rows:∀ (v:Value) (es:List Ev),RowE w W v es->RowE w (setAll W (w.heap.size+1) 0 (clkArr c).toList) v es:=λ v es hr=>Zh hr (λ k h1 _=>far k (λ e=>Zds hr h.ds.out ZJ (by rw[h1,e])))
 exact⟨hb,rows _ _ h.done,rows _ _ h.left,hk⟩
theorem Zfs{P:Program}{fn:Func}{t1 t2 t3 y3:Nat}(h:fn.results=#[.tmp t1,.tmp t2,.cell t3 y3]){tmps:Array Value}{w:World}{a3:Addr}{v1 v2 v3:Value}
  (p1:tmps.getD t1 undef=v1) (p2:tmps.getD t2 undef=v2) (p3:tmps.getD t3 undef = .pointer (some a3)) (l3:(loadVar y3 a3).run P w = .ok v3 w):(results fn tmps).run P w = .ok (.tuple #[v1,v2,v3]) w:=by
 have q1:tmps[t1]?.getD undef=v1:=by simpa using p1
 have q2:tmps[t2]?.getD undef=v2:=by simpa using p2
 have q3:tmps[t3]?.getD undef = .pointer (some a3):=by simpa using p3
 simp[results,h,q1,q2,q3,asAddr,l3]
def Zg4(w:World)(b:Nat):Nat:=match w.heap[b]? with | some (.map es _)=>es.size | _=>0
theorem MapEv.len{w:World}{b:Nat}{m:List Ev}(h:MapEv w b m):Zg4 w b=m.length:=by
 obtain⟨es,clk,hb,he⟩:=h;have:=congrArg List.length he;simp only[List.length_map,Array.length_toList] at this;simp[Zg4,hb,this]
theorem ZfE{f:Nat}{c:Clk}{m d:List Ev}(h:Zbr c m=none):Za7 f c m d=(d,m,c):=by
 cases f with
 | zero=>rfl
 | succ f=>simp[Za7,h]
theorem Zqz{c:Clk}{m:List Ev}{e:Ev}(h:Zbr c m=some e):e∈m/\Zb1 e.r e.n m=some e/\e.n=c.get e.r+1/\e.r<5:=by
 unfold Zbr at h;obtain⟨r,hr,h⟩:=List.exists_of_findSome?_eq_some h;unfold Zcc at h
 cases hf:Zb1 r (c.get r+1) m with
 | none=>rw[hf] at h;cases h
 | some e' =>
  rw[hf] at h;simp only at h;split at h
  ·injection h with h
   subst h;obtain⟨h1,h2,h3⟩:=Zif hf;subst h2;rw[←h3] at hf;exact⟨h1,hf,h3,by simpa using hr⟩
  ·cases h
theorem ZoT{r n:Nat}{m:List Ev}{e:Ev}(h:Zb1 r n m=some e):(Zdp r n m).length=m.length-1:=by
 have h1:=List.mem_of_find?_eq_some h;have h2:=List.find?_some h;exact List.length_eraseP_of_mem h1 h2
theorem ZoU{r n:Nat}{m:List Ev}{x:Ev}(h:x∈Zdp r n m):x∈m:=List.mem_of_mem_eraseP h
theorem ZbN(w:World)(e:Ev):Reads (w.alloc (.cells (evArr e) 89)) (w.heap.size+1) 12 (some ⟨w.heap.size,0,none⟩) 1 (evArr e).toList:=by
 refine⟨rfl,λ _=>⟨_,rfl,ZM,λ j v hj=>?_⟩⟩;have ea:(⟨w.heap.size,0,none⟩:Addr).add j=⟨w.heap.size,j,none⟩:=by
  unfold Addr.add;by_cases h0:j=0 <;> simp[h0]
 rw[ea,(ZBn w 89 _).cell];simpa using hj
theorem ZdR(w:World)(o:Obj)(e:Ev):Reads ((w.alloc o).alloc (.cells (evArr e) 89)) (w.heap.size+1+1) 12 (some ⟨w.heap.size+1,0,none⟩) 1 (evArr e).toList:=by
 have h:=ZbN (w.alloc o) e;have e1:(w.alloc o).heap.size=w.heap.size+1:=ZM;rw[e1] at h;exact h
theorem ZaK(e:Ev):∀ u∈(evArr e).toList,u.oneCell'=true:=by
 intro u hu;simp at hu;rcases hu with rfl | rfl | rfl | rfl | rfl | rfl | rfl | rfl | rfl | rfl | rfl | rfl <;> rfl
theorem ZoS(c:Clk)(l:List Ev)(a:Option Addr)(n cap:Nat)(w:World)(h:EvSl w a n cap l)(hl:∀ e∈l,e.r<5/\1<=e.n)(hc:∀ i,c.get i+n<=1000000):
  Calls prog 160 #[Za2 c,.slice a n cap] w λ r w'=>∃ v1 v2,r = .returned (.tuple #[v1,v2,Za2 (drained c l).2.2]) /\
   w'.ownsRow w.heap.size 89 12 v1 (drained c l).1.length (evCells (drained c l).1)/\w'.ownsRow w.heap.size 89 12 v2 (Zb3 (Zaf c l) (drained c l).2.1).length (evCells (Zb3 (Zaf c l) (drained c l).2.1))/\Apart v2 v1/\Below w.heap.size w w':=by
 have hlen:=h.2.2.1;have Ft:=h.1;have ic:=h.2.1;unfold maxLen at ic;have IH:n<=1000000:=by have:=hc 0;omega
 obtain⟨i0,hi,cM,cG,cK⟩:=info_parts Zbv;have OU:DS w (((w.alloc (.cells (clkArr c) 44)).alloc (.cells #[.int .i64 0,.int .i64 0,.int .i64 0,.int .i64 0,.int .i64 0] 44)).alloc (.map #[] 0)) c [] (.slice none 0 0) []:=by
  have s1:((w.alloc (.cells (clkArr c) 44)).alloc (.cells #[.int .i64 0,.int .i64 0,.int .i64 0,.int .i64 0,.int .i64 0] 44)).heap.size=w.heap.size+1+1:=ZM;refine⟨((ZBn w _ _).alloc _).alloc _,(Z6 w _ _ _).alloc _,?_,⟨rfl,.inl ⟨rfl,rfl⟩⟩,(((ZKr w).alloc _).alloc _).alloc _⟩;refine⟨#[],0,?_,rfl⟩;have:=heap_alloc_new ((w.alloc (.cells (clkArr c) 44)).alloc (.cells #[.int .i64 0,.int .i64 0,.int .i64 0,.int .i64 0,.int .i64 0] 44)) (.map #[] 0);rw[s1] at this;exact this
 obtain⟨D,hD⟩:∃ D,D=drained c l:=⟨_,rfl⟩;obtain⟨O,hO⟩:∃ O,O=Zaf c l:=⟨_,rfl⟩;have BX:Za7 O.length c O []=D:=by rw[hO];exact hD.symm
 rw[←hD,←hO];obtain⟨vd,HO⟩:=ZH2 BX hO;clear hD BX hO;obtain⟨Nh,HS,HL,HC,HN⟩:=ZH5 OU h hl hc hlen;clear OU h hl hc hlen;have iP:=@run_makeMap prog;go_enter func160,ntmps160;go_wp2_with fail;clear iP;go_loopw [8,22] (λ v i wr=>∃ q:Nat,q<=n/\i = .int .i64 q/\Hid (DS w wr c (Zaf c (l.take q)) v (Zaf c (l.take q)))) (λ _ i _=>n-(intOf i).toNat)
 case atStart=>exact⟨0,ZO,rfl,Nh⟩
 case round =>
  clear Nh;obtain⟨q,hq,rfl,HD⟩:=hrel;by_cases dy:q<n
  ·obtain⟨e,he⟩:∃ e,l[q]? = some e:=⟨_,ZX (by rw[HN.out];exact dy)⟩;obtain⟨r5,qB⟩:=HL.out e (ZY he);have hs:=HS.out.of_same (w':=wr) (λ ad _ hl=>HD.out.kept.below.block _ hl) HD.out.kept.le;obtain⟨bk,off,rfl,cQ,c0,c1,c2,c3,c4,c5,c6,c7,c8,c9,cP,cR⟩:=hs.at_ he;have it:=Zlb c (l.take q) e;rw[←Zag he] at it;have eI:=ZH it;have rt:(Zaf c (l.take q)).length<=1000000:=by
    have:=Zeq c (l.take q) [];rw[ZV] at this;unfold Zaf;simp at this;omega
   clear hs he it;go_wp2_with fail;refine(Zge e _).mono ?_;rintro r w2 ⟨rfl,bW⟩;have je:=(HD.out.alloc (.cells (evArr e) 89)).below bW;have fH:=(ZBn wr 89 (evArr e)).ob bW;have kV:=Zd5 je.map e.r e.n;obtain⟨Rh,nG,iX⟩:=ZH3 HD.out.map.lt je fH;clear je fH bW c0 c1 c2 c3 c4 c5 c6 c7 c8 c9 cP cR HD;rcases mw:Zb1 e.r e.n (Zaf c (l.take q)) with _ | e'
   ·rw[mw] at kV;have CN:=ZH mw;clear mw;have iO:=nG.out.alloc (.cells Zj 89);have Cz:=ZH (iX.out.alloc (.cells Zj 89));obtain⟨k0,k1,k2,k3,k4⟩:=nG.out.clk.aE;have iV:=nG.out.clk.lt;have gp:=iX.out.lt;obtain⟨c0,c1,c2,c3,c4,c5,c6,c7,c8,c9,cP,cR⟩:=iX.out.ae;have ii:=ZH iO;clear iO nG iX;go_wp2_with fail;refine(Zjq c e.r e.n _ r5).mono ?_;rintro r w4 ⟨rfl,cz⟩;have l7:=ii.out.below cz;obtain⟨qO,nX⟩:=ZH2 (Cz.out.ob cz) l7;clear l7 cz c0 c1 c2 c3 c4 c5 c6 c7 c8 c9 cP cR k0 k1 k2 k3 k4 kV ii Cz iV gp;rcases pM:c.has e.r e.n with _ | _
    ·have kG:Zaf c (l.take (q+1))=Zaf c (l.take q)++[e]:=by rw[eI.out];unfold Zc3;rw[CN.out,pM];simp
     obtain⟨c0,c1,c2,c3,c4,c5,c6,c7,c8,c9,cP,cR⟩:=qO.out.ae;have gp:=qO.out.lt;have uq:=ZH kG;have dz:wr.heap.size≠w.heap.size+1+1:=by have:=Rh.out;omega
     have vi:=ZH dz;clear kG eI pM dz;go_wp2_with fail;refine ZSh (λ w'=>Blk w' wr.heap.size 89 (evArr e)) [(0,3),(1,0),(3,0),(2,1),(4,1)] (qO.out.drew) λ bR=>?_
     repeat((first | refine ZSa ?_ | refine ZSb ?_ | (refine Zf rfl (by rfl) (λ w' ci=>by obtain⟨c0,c1,c2,c3,c4,c5,c6,c7,c8,c9,cP,cR⟩:=ci.ae;go_simp;with_reducible rfl) ?_));simp only[Act.put,ZA,ZB,ZC])
     clear bR c0 c1 c2 c3 c4 c5 c6 c7 c8 c9 cP cR;refine ZSd λ K hK=>?_
     go_simp;refine(Zge e _).mono ?_;rintro r w5 ⟨rfl,dw⟩;have jy:DS w w5 c (Zaf c (l.take q)) u8 (Zaf c (l.take q)):=(nX.out.drewN 1).below dw;have wo:=(qO.out.drew).ob dw;refine hK.out (λ w'=>Blk w' wr.heap.size 89 (evArr e)) _ _ (λ _ h=>h) wo (λ _=>?_);obtain⟨w6,em,wM,mK⟩:=Zi5 jy.map e CN.out;have rS:=ZH (jy.mapped mK wM);have hltx5:=wo.lt;have Ll:=wo.grown mK (by have:=jy.map;intro h;injection h with h;exact vi.out h);have zp:=ZH Ll;clear hK K jy wM mK dw wo nX qO;refine ZSd λ K hK=>?_
     go_simp;refine hK.out (λ w'=>Blk w' wr.heap.size 89 (evArr e)) _ _ (λ _ h=>h) zp.out (λ _=>?_);clear hK K em;refine ZSf ?_;obtain⟨c0,c1,c2,c3,c4,c5,c6,c7,c8,c9,cP,cR⟩:=zp.out.ae;have hltx6:=zp.out.lt;have tz:=rS.out.alloc (.cells (evArr e) 89);have qR:=ZH tz;have dQ:=qR.out.kept.le;clear tz rS;go_wp2_with (at_builtin;refine Zc _ rfl (.tmp 48) (.tmp 50) _ rfl w.heap.size 89 i0 _ 12 112 underlying128 hi cM cG cK rfl ZO u8 (Zaf c (l.take q)).length (evCells (Zaf c (l.take q))) rfl qR.out.row (w6.heap.size+1) (some ⟨w6.heap.size,0,none⟩) 1 1 (evArr e).toList rfl (ZbN _ _) (ZaK e) ZF ZO dQ ?_;intro v8 w8 yI uF _)
     have tA:=qR.out.aI uF yI;rw[←uq.out] at tA;have CI:=ZH tA;clear tA yI uF uq qR;go_roundw
     case rel=>exact⟨q+1,ZO,ZN,CI⟩
     case measure=>simp[intOf];omega
    ·have kG:Zaf c (l.take (q+1))=Zaf c (l.take q):=by rw[eI.out];unfold Zc3;rw[pM];simp
     have jy:=nX.out;rw[←kG] at jy;have qQ:=ZH jy;clear jy kG eI pM nX qO;go_wp2
     go_roundw
     case rel=>exact⟨q+1,ZO,ZN,qQ⟩
     case measure=>simp[intOf];omega
   ·rw[mw] at kV;have kG:Zaf c (l.take (q+1))=Zaf c (l.take q):=by rw[eI.out];unfold Zc3;rw[mw];simp
    have iO:=nG.out.alloc (.cells (evArr e') 89);rw[←kG] at iO;have ii:=ZH iO;clear mw iO kG eI iX;go_wp2
    go_roundw
    case rel=>exact⟨q+1,ZO,ZN,ii⟩
    case measure=>simp[intOf];omega
  ·obtain rfl:q=n:=ZO;have hO:Zaf c (l.take q)=O:=by rw[ZU (by rw[HN.out];omega),HO.out]
   have SU:O.length<=q:=by
    have:=Zeq c l [];rw[HO.out];unfold Zaf;rw[HN.out] at this;simpa using this
   have iW:∀ x∈O,x∈l:=λ x hx=>by
    rw[HO.out] at hx;rcases Zer c l [] x hx with h | h
    ·cases h
    ·exact h
   have hd:=HD.out;rw[hO] at hd;obtain⟨HD,vD⟩:=ZH2 hd iW;obtain⟨k0,k1,k2,k3,k4⟩:=HD.out.clk.aE;clear hO hd iW HO;go_wp2_with fail;refine(ZiS c O _ _ HD.out.map (λ i=>by have:=HC.out i;omega)).mono ?_;rintro r w2 ⟨dC,bW⟩;have EP:DL w (w2.alloc (.cells (optArr (Zbr c O)) 89)) c O u8 O (.slice none 0 0) [] w2.heap.size (Zbr c O):=by
    have h0:=HD.out.below bW;refine⟨h0.alloc _,⟨rfl,.inl ⟨rfl,rfl⟩⟩,λ g h=>(by cases h),ZBn w2 89 _,λ h=>(by cases h),Zg7 h0.row (ZL _),by have:=h0.map.lt;omega⟩
   have nY:=ZH EP;clear EP bW HD k0 k1 k2 k3 k4;obtain⟨OK,K0⟩:∃ OK:Bool,OK=(Zbr c O).isSome:=⟨_,rfl⟩;have wT:r = .returned (.tuple #[.agg (optArr (Zbr c O)),.bool OK]):=by rw[dC,K0];cases Zbr c O <;> rfl
   subst wT;have gN:=ZH K0;generalize hX:Zbr c O=X at *;have HX:=ZH hX;clear dC K0 hX;have hx:optArr X=evArr (X.getD Ev.zero):=rfl;rw[hx] at nY ⊢;have hY:∃ Y,Y=X.getD Ev.zero:=⟨_,rfl⟩;obtain⟨Y,hY⟩:=hY;rw[←hY] at nY ⊢;have HY:=ZH hY;clear hx hY;go_wp2_with fail;have jJ:=nY.out;have B0:∀ i,c.get i+O.length<=1000000:=λ i=>by have:=HC.out i;omega
   have zo:=ZH B0;have Hv:Hid (([]:List Ev).length+O.length<=q):=ZH (by simpa using SU);clear jJ B0;go_loopw [4,13,14] (λ v4 t ok wr=>∃ (c':Clk) (m d:List Ev) (g:Nat) (X:Option Ev),t = .pointer (some ⟨g,0,none⟩)/\ok = .bool X.isSome/\Hid (Zbr c' m=X)/\Hid (DL w wr c' m u8 O v4 d g X)/\Hid (Za7 m.length c' m d=D)/\Hid (∀ i,c'.get i+m.length<=1000000)/\Hid (∀ x∈m,x∈l)/\Hid (d.length+m.length<=q)) (λ _ _ _ wr=>Zg4 wr (w.heap.size+1+1))
   case atStart =>
    exact⟨c,O,[],_,X,rfl,by rw[gN.out],HX,nY,vd,zo,vD,Hv⟩
   case round =>
    clear nY HX HY gN zo Hv vd HC vD;obtain⟨c',m,d,g,X,rfl,rfl,HX,nY,vd,zo,vD,Hv⟩:=hrel;rcases X with _ | e
    ·have em:=ZfE (f:=m.length) (d:=d) HX.out;rw[vd.out] at em;have QS:=ZH em.symm;clear em vd HX;have iO:D3 w wr c' m u8 O u4 d (.slice none 0 0) []:=⟨nY.out.ds,nY.out.done,⟨rfl,.inl ⟨rfl,rfl⟩⟩,λ g h=>(by cases h),λ g h=>(by cases h)⟩;have cB:=nY.out.ds.row;obtain⟨a8,KB,rfl,Bj⟩:=EvSl.ab cB;have h8:=Bj.1;have Sf:=Bj.2.1;unfold maxLen at Sf;have ii:=ZH iO;clear iO cB Bj nY;go_wp2_with fail;go_loopw [5,82] (λ v5 i wx=>∃ p:Nat,p<=O.length/\i = .int .i64 p/\Hid (D3 w wx c' m (.slice a8 O.length KB) O u4 d v5 (Zb3 (O.take p) m))) (λ _ i _=>O.length-(intOf i).toNat)
     case atStart=>exact⟨0,ZO,rfl,ii⟩
     case round =>
      clear ii;obtain⟨p,hp,rfl,ii⟩:=hrel;by_cases oM:p<O.length
      ·obtain⟨e,he⟩:∃ e,O[p]? = some e:=⟨_,ZX oM⟩;have eD:=RowE.sl ii.out.ds.row;obtain⟨bk,off,SB,cQ,c0,c1,c2,c3,c4,c5,c6,c7,c8,c9,cP,cR⟩:=eD.at_ he;subst SB;have it:=ZnJ (O.take p) m e;rw[←Zag he] at it;have hllen:(Zb3 (O.take p) m).length<=1000000:=by
        have h1:=List.length_filter_le (λ e=>(Zb1 e.r e.n m).isSome) (O.take p);have h2:(O.take p).length<=p:=by rw[ZV];omega
        unfold Zb3;omega
       have eI:=ZH it;clear eD he it;go_wp2_with fail;refine(Zge e _).mono ?_;rintro r w2 ⟨rfl,bW⟩;have l7:=(ii.out.alloc (.cells (evArr e) 89)).below bW;have fH:=(ZBn wr 89 (evArr e)).ob bW;have kV:=Zd5 l7.ds.map e.r e.n;obtain⟨nX,iX⟩:=ZH2 l7 fH;clear l7 fH bW c0 c1 c2 c3 c4 c5 c6 c7 c8 c9 cP cR ii;rcases mw:Zb1 e.r e.n m with _ | e'
       ·rw[mw] at kV;have wK:Zb3 (O.take (p+1)) m=Zb3 (O.take p) m:=by rw[eI.out,mw];simp
        have jy:=nX.out.alloc (.cells Zj 89);rw[←wK] at jy;have qQ:=ZH jy;clear mw wK jy eI nX iX;go_wp2
        go_roundw
        case rel=>exact⟨u5,by repeat(first | exact⟨⟨p+1,ZO,ZN,qQ⟩,rfl⟩ | apply Exists.intro)⟩
        case measure=>simp[intOf];omega
       ·rw[mw] at kV;have wK:Zb3 (O.take (p+1)) m=Zb3 (O.take p) m++[e]:=by rw[eI.out,mw];simp
        have jy:=(nX.out.alloc (.cells (evArr e') 89)).alloc (.cells (evArr e) 89);obtain⟨c0,c1,c2,c3,c4,c5,c6,c7,c8,c9,cP,cR⟩:=iX.out.ae;have gp:=iX.out.lt;obtain⟨qQ,Hp⟩:=ZH2 jy wK;have dQ:=jy.ds.kept.le;clear mw jy eI nX iX wK;go_wp2_with (at_builtin;refine Zc _ rfl (.tmp 94) (.tmp 96) _ rfl w.heap.size 89 i0 _ 12 112 underlying128 hi cM cG cK rfl ZO u5 (Zb3 (O.take p) m).length (evCells (Zb3 (O.take p) m)) rfl qQ.out.left (w2.heap.size+1+1) (some ⟨w2.heap.size+1,0,none⟩) 1 1 (evArr e).toList rfl (ZdR _ _ _) (ZaK e) ZF ZO dQ ?_;intro v7 w7 bX cN dP)
        have tz:=qQ.out.aI cN bX dP;rw[←Hp.out] at tz;have qR:=ZH tz;clear tz bX cN dP Hp qQ;go_roundw
        case rel=>exact⟨v7,_,_,_,_,⟨p+1,ZO,ZN,qR⟩,rfl,rfl,rfl,rfl,rfl⟩
        case measure=>simp[intOf];omega
      ·obtain rfl:p=O.length:=ZO;have iO:=ii.out;rw[List.take_length] at iO;obtain⟨k0,k1,k2,k3,k4⟩:=iO.ds.clk.aE;have ii:=ZH iO;clear iO;have A7:=ii.out.ds.out.lt;have Ff:=ii.out.ds.clk.lt;have fo:=ii.out.ds.out.frozen;have f0:=fo 0;have f1:=fo 1;have f2:=fo 2;have f3:=fo 3;have f4:=fo 4;obtain⟨o0,o1,o2,o3,o4⟩:=ii.out.ds.out.aE;clear fo;go_wp2_with fail;refine ZSh (λ w'=>Kept wr.heap.size wr w') [(0,3),(1,3),(2,0),(3,3),(4,3),(5,2)] (Kept.drew ⟨ZW _ _,ZL _⟩) λ bR=>?_
       repeat((first | refine ZSa ?_ | refine ZSb ?_ | refine ZSc ?_);simp only[Act.put,ZA,ZB,ZC])
       refine ZSe λ K hK=>?_
       go_simp;refine hK.out _ _ ?_;clear hK K;refine ZSf ?_;go_wp2_with fail;have dx:=ii.out.finish;obtain⟨hb,ie,eC,hk⟩:=dx;refine bodyPost_ret (w:=(setAll wr (w.heap.size+1) 0 (clkArr c').toList).drew) (Zfs rfl rfl rfl rfl (run_loadVar_row _ _ _ _ _ _ _ hb.drew underlying44 rfl ZK)) rfl ?_;rw[←QS.out];exact⟨u4,u5,rfl,ie,eC,ii.out.a54,hk.below.drew⟩
    ·obtain⟨fl,oZ,mJ,Lq⟩:=Zqz HX.out;have Fo:=ZoT oZ;have kT:Za7 (Zdp e.r e.n m).length (c'.set e.r (c'.get e.r+1)) (Zdp e.r e.n m) (d++[e])=D:=by
      have h:=vd.out;have hp:m.length=(m.length-1)+1:=by have:=List.length_pos_of_mem fl;omega
      rw[hp] at h;simp only[Za7,HX.out] at h;rw[Fo];exact h
     have EG:∀ i,(c'.set e.r (c'.get e.r+1)).get i+(Zdp e.r e.n m).length<=1000000:=λ i=>by
      have h1:=zo.out i;have h2:=List.length_pos_of_mem fl;rw[Fo];by_cases hi:e.r=i
      ·subst hi;rw[Clk.aD _ Lq];omega
      ·rw[Clk.aB _ hi];omega
     have hlenpos:=List.length_pos_of_mem fl;obtain⟨QT,Cv,JK,mS⟩:=ZH4 kT EG Fo oZ;have hcb:=zo.out e.r;have hdq:=Hv.out;clear kT EG Fo fl oZ mJ HX vd;obtain⟨c0,c1,c2,c3,c4,c5,c6,c7,c8,c9,cP,cR⟩:=nY.out.box.ae;have AJ:=nY.out.alloc (.cells (evArr e) 89);have zt:=ZH AJ;have dQ:=AJ.ds.kept.le;clear AJ
     go_wp2_with (first
      |(at_builtin;refine Zc _ rfl (.tmp 66) (.tmp 68) _ rfl w.heap.size 89 i0 _ 12 112 underlying128 hi cM cG cK rfl ZO u4 d.length (evCells d) rfl zt.out.done (wr.heap.size+1) (some ⟨wr.heap.size,0,none⟩) 1 1 (evArr e).toList rfl (ZbN _ _) (ZaK e) ZF ZO dQ ?_;intro v4 w5 lP kg wh
        have AK:=zt.out.aI kg lP wh;clear c0 c1 c2 c3 c4 c5 c6 c7 c8 c9 cP cR;obtain⟨c0,c1,c2,c3,c4,c5,c6,c7,c8,c9,cP,cR⟩:=AK.box.ae;have CK:=ZH AK
        clear AK lP kg wh))
     refine(Zge e _).mono ?_;rintro r w6 ⟨rfl,eu⟩;have AL:=CK.out.below eu;obtain⟨w7,F0,yC,cN⟩:=Zi4 AL.ds.map e.r e.n 0;have oA:=AL.mapped cN yC;have ca:=oA.ds.clk.clk Lq;have fa:=oA.ds.clk.frozen e.r;have ni:=oA.ds.clk.lt;have AM:=oA.bG e.r Lq (c'.get e.r+1);have OQ:((c'.get e.r+1:Nat):Int)=(c'.get e.r:Int)+1:=ZO;rw[OQ] at AM;clear c0 c1 c2 c3 c4 c5 c6 c7 c8 c9 cP cR;obtain⟨c0,c1,c2,c3,c4,c5,c6,c7,c8,c9,cP,cR⟩:=oA.box.ae;have hglo:=oA.glo;have AS:=oA.box.lt;have sw:=ZH AM;clear AL yC cN oA eu AM OQ CK;have r0:(0:Int)<=(e.r:Int):=ZO;have r5:(e.r:Int)<5:=ZO;go_upto_region 17 with (fail)
     generalize w7.setCell ⟨w.heap.size,e.r,none⟩ (.int .i64 ((c'.get e.r:Int)+1))=w8 at *;clear c0 c1 c2 c3 c4 c5 c6 c7 c8 c9 cP cR ca fa ni AS F0;obtain⟨c0,c1,c2,c3,c4,c5,c6,c7,c8,c9,cP,cR⟩:=sw.out.box.ae;obtain⟨k0,k1,k2,k3,k4⟩:=sw.out.ds.clk.aE;have zu:=ZH (sw.out.bL (x':=some e));have hlt8:=sw.out.ds.clk.lt;have B6:∀ i,(c'.set e.r (c'.get e.r+1)).get i<=2000000:=λ i=>by have:=Cv.out i;omega
     have Nd:=ZH B6;clear sw B6;go_wp2_with fail;refine(ZiS _ _ _ _ zu.out.ds.map Nd.out).mono ?_;rintro r jt ⟨mA,tn⟩;have oz:=zu.out.below tn;generalize oY:c'.set e.r (c'.get e.r+1)=c2 at *;generalize jh:Zdp e.r e.n m=m2 at *;obtain⟨X2,jO⟩:∃ X2,X2=Zbr c2 m2:=⟨_,rfl⟩;have FK:r = .returned (.tuple #[.agg (evArr (X2.getD Ev.zero)),.bool X2.isSome]):=by rw[mA,jO];cases Zbr c2 m2 <;> rfl
     subst FK;have qp:=oz.aZ (x':=X2) (Zmt _ _);have ja:optArr X2=evArr (X2.getD Ev.zero):=rfl;rw[ja] at qp;obtain⟨c0,c1,RP,c3,c4,c5,c6,c7,c8,c9,cP,cR⟩:=oz.box.ae;have fo:=oz.box.frozen;have f0:=fo 0;have f1:=fo 1;have f2:=fo 2;have f3:=fo 3;have f4:=fo 4;have f5:=fo 5;have f6:=fo 6;have f7:=fo 7;have f8:=fo 8;have f9:=fo 9;have f10:=fo 10;have f11:=fo 11;have Fa:=oz.box.lt;have yE:Zg4 (setAll jt w8.heap.size 0 (evArr (X2.getD Ev.zero)).toList) (w.heap.size+1+1)<Zg4 wr (w.heap.size+1+1):=by
      rw[qp.ds.map.len,nY.out.ds.map.len,JK.out];omega
     obtain⟨CJ,pz,Rj⟩:=ZH3 qp jO.symm yE;have yT:∀ x∈m2,x∈l:=λ x hx=>vD.out x (ZoU (by rw[jh];exact hx))
     have kn:(d++[e]).length+m2.length<=q:=by rw[JK.out,ZI];simp;omega
     obtain⟨Dy,J4⟩:=ZH2 yT kn;clear mA jO qp ja fo yE yT kn oY jh oz zu tn Nd k0 k1 k2 k3 k4 mS JK nY zt;generalize X2.getD Ev.zero=Y at *;go_wp2
     go_roundw
     case rel=>exact⟨c2,m2,d++[e],w8.heap.size,X2,rfl,rfl,pz,CJ,QT,Cv,Dy,J4⟩
     case measure=>exact Rj.out
end
def Zel(es:List Ev)(w:World)(r:Ending)(w':World):Prop:=∃ v,r = .returned v/\w'.ownsRow w.heap.size 89 12 v es.length (evCells es)/\Below w.heap.size w w'
theorem Zn2(w:World):(w.alloc (.cells #[] 89)).ownsRow w.heap.size 89 12 (.slice (some ⟨w.heap.size,0,none⟩) 0 0) 0 (evCells []) :=
 ⟨rfl,.inr ⟨w.heap.size,0,#[],rfl,ZL _,ZBn w 89 #[],ZL _,by unfold maxLen;omega,rfl,rfl⟩⟩
theorem Zk0{a:Option Addr}{n cap:Nat}{es:List Ev}{w:World}(h:EvSl w a n cap es)(hn:n<=1000000):Calls prog 124 #[.slice a n cap] w (Zel es w):=by
 have hlen:=h.2.2.1;have qn:=λ(w:World) (a:Option Addr) (n c n' c':Nat)=>Lib.run_eql_slice_nil (P:=prog) w 128 89 a n c n' c' underlying128
 obtain⟨i0,hi,cM,cG,cK⟩:=info_parts Zbv;rcases a with _ | ad
 ·have h0:n=0:=by
   rcases h.2.2.2 with h | ⟨b,off,h,_⟩
   ·exact h
   ·cases h
  subst h0;have gP:es=[]:=List.eq_nil_of_length_eq_zero hlen;subst gP;clear h hlen;go_enter func124,ntmps124;go_wp2
  go_ret;exact⟨_,rfl,⟨rfl,.inl ⟨rfl,rfl⟩⟩,ZW _ _⟩
 ·have iH:=ZH (h.reads.alloc (ZL _) (.cells #[] 89));skip;have HO:=ZH (Zn2 w);subst hlen;clear h;go_enter func124,ntmps124;go_wp2_with (at_builtin;refine Zc _ rfl (.tmp 5) (.tmp 6) _ rfl w.heap.size 89 i0 _ 12 112 underlying128 hi cM cG cK rfl ZO (.slice (some ⟨w.heap.size,0,none⟩) 0 0) 0 (evCells []) rfl HO.out w.heap.size (some ad) es.length cap (evCells es) rfl iH.out (Zbi _) ZF ZO ZM ?_;intro v4 w4 cd dn _)
  go_ret;refine⟨v4,rfl,?_,((ZW w.heap.size w).alloc (ZL _) _).grown dn ZM (λ g hg=>by injection hg with hg;exact Nat.le_of_eq hg)⟩;simpa [evCells] using cd
theorem Zqe(n:Nat)(w:World)(hn:n<=1000000):Calls prog 204 #[.slice none 0 0,.int .i64 n] w (Zel [] w):=by
 obtain⟨i0,hi,cM,cG,cK⟩:=info_parts Zbv;rcases Nat.eq_zero_or_pos n with rfl | hp
 ·go_enter func204,ntmps204;go_wp2
  go_ret;exact⟨_,rfl,⟨rfl,.inl ⟨rfl,rfl⟩⟩,ZW _ _⟩
 ·have em:=λ ty=>Lib.run_append_nil_zeros (P:=prog) w 128 3 ty 89 i0 _ .i64 .i64 underlying128 underlying3 hi cM n hp (by rw[cG];omega) ZO (by rw[cK];omega)
  have IA:n<=grownCap w n 0 89/\grownCap w n 0 89<=maxLen:=⟨grownCap_ge w n 0 89,grownCap_le_maxLen w n 0 89 (by unfold maxLen;omega)⟩;have HR:=ZH em;clear em;generalize grownCap w n 0 89=C at *;go_enter func204,ntmps204;go_wp2_with (at_builtin;refine Lib.wpList_append_run _ rfl (.tmp 20) (.tmp 21) _ _ rfl (.slice none 0 0) (.int .i64 n) rfl rfl _ _ (HR.out _) ?_)
  go_ret;refine⟨_,rfl,⟨rfl,.inr ⟨w.heap.size,C,_,rfl,ZL _,ZBn w 89 _,Nat.zero_le _,IA.2,?_,by simp[evCells]⟩⟩,((ZW w.heap.size w).alloc (ZL _) _).drew⟩;rw[Array.size_append,size_zeroCells,size_zeroCells];simp;omega
def Zen(l0 l1:List Ev):Nat->List Ev
 | 0=>[]
 | 1=>[]++l0
 | _=>[]++l0++l1
theorem ZoP{g:Nat}{a0:Option Addr}{n0 c0:Nat}{l0:List Ev}{a1:Option Addr}{n1 c1:Nat}{l1:List Ev}{w:World}(hg:Blk w g 128 #[.slice a0 n0 c0,.slice a1 n1 c1])(h0:EvSl w a0 n0 c0 l0)(h1:EvSl w a1 n1 c1 l1)(hn:n0+n1<=1000000):
  Calls prog 178 #[.slice (some ⟨g,0,none⟩) 2 2] w (Zel (l0++l1) w):=by
 have e0:=h0.2.2.1;have e1:=h1.2.2.1;obtain⟨i0,hi,cM,cG,cK⟩:=info_parts Zbv;have p0:w.cell? ⟨g,0,none⟩=some (.slice a0 n0 c0):=hg.cell 0;have p1:w.cell? ⟨g,1,none⟩=some (.slice a1 n1 c1):=hg.cell 1;have ce:=hg.lt;obtain⟨H0,H1,HG⟩:=ZH3 h0 h1 hg;subst e0 e1;clear h0 h1 hg;go_enter func178,ntmps178;go_wp2_with fail;go_loop [3,11] (λ s i=>(s = .int .i64 0/\i = .int .i64 0)∨(s = .int .i64 l0.length/\i = .int .i64 1)∨(s = .int .i64 ((l0.length:Int)+l1.length)/\i = .int .i64 2)) (λ _ i=>2-(intOf i).toNat)
 case atStart=>exact .inl ⟨rfl,rfl⟩
 case round =>
  rcases hrel with ⟨rfl,rfl⟩|⟨rfl,rfl⟩|⟨rfl,rfl⟩
  ·go_wp2_with fail;go_round
   case rel=>exact .inr (.inl ⟨rfl,rfl⟩)
   case measure=>simp[intOf]
  ·go_wp2_with fail;go_round
   case rel=>exact .inr (.inr ⟨rfl,rfl⟩)
   case measure=>simp[intOf]
  ·go_wp2_with fail;have yl:((l0.length:Int)+(l1.length:Int))=((l0.length+l1.length:Nat):Int):=ZO;rw[yl];refine(Zqe (l0.length+l1.length) _ hn).mono ?_;rintro r w2 ⟨v2,rfl,du,bW⟩;have KU:=HG.out.ob bW;have q0:w2.cell? ⟨g,0,none⟩=some (.slice a0 l0.length c0):=KU.cell 0;have q1:w2.cell? ⟨g,1,none⟩=some (.slice a1 l1.length c1):=KU.cell 1;obtain⟨jG,cH⟩:=ZH2 du bW;clear p0 p1 KU du bW yl;go_wp2_with fail;have cr:Hid (Kept w.heap.size w w2):=ZH (Kept.start cH.out);clear q0 q1 cH;go_loopw [6,27] (λ v i wr=>∃ k:Nat,k<=2/\i = .int .i64 k/\Hid (wr.ownsRow w.heap.size 89 12 v (Zen l0 l1 k).length (evCells (Zen l0 l1 k)))/\Hid (Kept w.heap.size w wr)) (λ _ i _=>2-(intOf i).toNat)
   case atStart=>exact⟨0,ZO,rfl,jG,cr⟩
   case round =>
    clear jG cr;obtain⟨k,hk,rfl,HO,HK⟩:=hrel;rcases(by omega:k=0∨k=1∨k=2) with rfl | rfl | rfl
    ·have cT:=HO.out;have fL:=((H0.out.of_same (w':=wr) (λ ad _ hl=>HK.out.below.block _ hl) HK.out.le)).reads;have q0:wr.cell? ⟨g,0,none⟩=some (.slice a0 l0.length c0):=((HG.out.below HK.out.below ce)).cell 0;have q1:wr.cell? ⟨g,1,none⟩=some (.slice a1 l1.length c1):=((HG.out.below HK.out.below ce)).cell 1;have dQ:=HK.out.le;have iH:=ZH fL;have AS:g<wr.heap.size:=ZO;clear fL cT;go_wp2_with (at_builtin;refine Zc _ rfl (.tmp 31) (.tmp 32) _ rfl w.heap.size 89 i0 _ 12 112 underlying128 hi cM cG cK rfl ZO u6 (Zen l0 l1 0).length (evCells (Zen l0 l1 0)) rfl HO.out wr.heap.size a0 l0.length c0 (evCells l0) rfl iH.out (Zbi _) (by simp only[maxLen,Zen,List.length_nil];omega) (by simp only[Zen,List.length_nil];omega) dQ ?_;intro v7 w7 bX cN _)
     have ik:Kept w.heap.size w w7:=⟨HK.out.below.grown cN HK.out.le (λ k hk=>(Zb HO.out hk).1),ZT HK.out.le cN.size⟩;rw[←Zbj,←ZI] at bX;obtain⟨gW,fd⟩:=ZH2 bX ik;clear bX cN ik HO HK q0 q1;go_roundw
     case rel=>exact⟨1,ZO,rfl,gW,fd⟩
     case measure=>simp[intOf]
    ·have cT:=HO.out;have fL:=((H1.out.of_same (w':=wr) (λ ad _ hl=>HK.out.below.block _ hl) HK.out.le)).reads;have q0:wr.cell? ⟨g,0,none⟩=some (.slice a0 l0.length c0):=((HG.out.below HK.out.below ce)).cell 0;have q1:wr.cell? ⟨g,1,none⟩=some (.slice a1 l1.length c1):=((HG.out.below HK.out.below ce)).cell 1;have dQ:=HK.out.le;have iH:=ZH fL;have AS:g<wr.heap.size:=ZO;clear fL cT;go_wp2_with (at_builtin;refine Zc _ rfl (.tmp 31) (.tmp 32) _ rfl w.heap.size 89 i0 _ 12 112 underlying128 hi cM cG cK rfl ZO u6 (Zen l0 l1 1).length (evCells (Zen l0 l1 1)) rfl HO.out wr.heap.size a1 l1.length c1 (evCells l1) rfl iH.out (Zbi _) (by simp only[maxLen,Zen,ZI,List.length_nil];omega) (by simp only[Zen,ZI,List.length_nil];omega) dQ ?_;intro v7 w7 bX cN _)
     have ik:Kept w.heap.size w w7:=⟨HK.out.below.grown cN HK.out.le (λ k hk=>(Zb HO.out hk).1),ZT HK.out.le cN.size⟩;rw[←Zbj,←ZI] at bX;obtain⟨gW,fd⟩:=ZH2 bX ik;clear bX cN ik HO HK q0 q1;go_roundw
     case rel=>exact⟨2,ZO,rfl,gW,fd⟩
     case measure=>simp[intOf]
    ·go_wp2
     go_ret;exact⟨u6,rfl,HO.out,HK.out.below⟩
section
abbrev Own:=Nat->Nat
def Own.put(own:Own)(v:Value)(t:Nat):Own:=λ b=>if v.ownBlock=some b then t else own b
def Own.at_(own:Own)(g t:Nat):Own:=λ b=>if b=g then t else own b
def Fresh(own:Own)(w:World):Prop:=∀ b,w.heap.size<=b->own b=0
structure Upd(T:Nat->Prop)(own own':Own)(w w':World):Prop where
 os:w'.os=w.os
 tape:w'.tape=w.tape
 output:w'.output=w.output
 size:w.heap.size<=w'.heap.size
 old:∀ b,b<w.heap.size->own' b=own b
 same:∀ b,b<w.heap.size->¬ T (own b)->w'.heap[b]? = w.heap[b]?
 fresh:Fresh own' w'
section
variable {T:Nat->Prop}{own own' cF:Own}{w w' w1:World}{t:Nat}
theorem Upd.refl(T:Nat->Prop)(own:Own)(w:World)(hf:Fresh own w):Upd T own own w w:=⟨rfl,rfl,rfl,ZL _,λ _ _=>rfl,λ _ _ _=>rfl,hf⟩
theorem Upd.trans(h:Upd T own cF w w1)(g:Upd T cF own' w1 w'):Upd T own own' w w' :=
 ⟨g.os.trans h.os,g.tape.trans h.tape,g.output.trans h.output,ZT h.size g.size,λ b hb=>(g.old b (ZR hb h.size)).trans (h.old b hb),
  λ b hb hn=>(g.same b (ZR hb h.size) (by rw[h.old b hb];exact hn)).trans (h.same b hb hn),g.fresh⟩
theorem Upd.mono{T':Nat->Prop}(h:Upd T own own' w w')(hT:∀ n,T n->T' n):Upd T' own own' w w':=⟨h.os,h.tape,h.output,h.size,h.old,λ b hb hn=>h.same b hb (λ hh=>hn (hT _ hh)),h.fresh⟩
theorem Upd.below(hb:Below w.heap.size w w')(hf:Fresh own w):Upd T own own w w':=⟨hb.os,hb.tape,hb.output,hb.size,λ _ _=>rfl,λ b h _=>hb.block b h,λ b h=>hf b (ZT hb.size h)⟩
abbrev ZUb:=@Upd.below
theorem Upd.kept(h:Upd T own own' w w1)(hb:Below w1.heap.size w1 w'):Upd T own own' w w':=h.trans (ZUb hb h.fresh)
theorem Upd.setAll{p:Nat}(h:Upd T own own' w w1)(hp:p<w.heap.size->T (own p))(i:Nat)(vs:List Value):Upd T own own' w (setAll w1 p i vs):=by
 obtain⟨q1,q2,q3⟩:=Zb6 (g:=p) vs i w1;exact⟨q1.trans h.os,q2.trans h.tape,q3.trans h.output,by rw[ZaR];exact h.size,h.old,λ b hb hn=>(Zaj (λ e=>hn (by rw[e];exact hp (e▸hb))) vs i w1).trans (h.same b hb hn),λ b hb=>h.fresh b (by rw[ZaR] at hb;exact hb)⟩
theorem Upd.drew(h:Upd T own own' w w1):Upd T own own' w w1.drew:=⟨h.os,h.tape,h.output,h.size,h.old,h.same,h.fresh⟩
theorem Upd.setCell{p:Addr}(h:Upd T own own' w w1)(hp:p.block<w.heap.size->T (own p.block))(v:Value):Upd T own own' w (w1.setCell p v) :=
 ⟨h.os,h.tape,h.output,by simpa [World.setCell] using h.size,h.old,λ b hb hn=>(Below.heap_setCell _ _ _ _ (λ e=>hn (by rw[e];exact hp (e▸hb)))).trans (h.same b hb hn),λ b hb=>h.fresh b (by simpa [World.setCell] using hb)⟩
theorem Upd.bt(h:Upd T own own' w w1){v:Value}(hv:∀ g,v.ownBlock=some g->w.heap.size<=g/\g<w1.heap.size)(t:Nat):Upd T own (own'.put v t) w w1 :=
 ⟨h.os,h.tape,h.output,h.size,λ b hb=>by
  unfold Own.put;rw[if_neg (λ e=>by have:=hv b e;omega)];exact h.old b hb,h.same,λ b hb=>by
  unfold Own.put;rw[if_neg (λ e=>by have:=hv b e;omega)]
  exact h.fresh b hb⟩
theorem Blk.upd{g:Nat}{ty:TypeId}{cs:Array Value}(h:Blk w g ty cs)(hu:Upd T own own' w w')(hg:¬ T (own g)):Blk w' g ty cs:=(hu.same g h.lt hg).trans h
structure RowAt(own:Own)(t:Nat)(w:World)(v:Value)(es:List Ev):Prop where
 row:w.ownsRow 0 89 12 v es.length (evCells es)
 own:∀ g,v.ownBlock=some g->own g=t
theorem RowAt.nil(own:Own)(t:Nat)(w:World):RowAt own t w (.slice none 0 0) []:=⟨⟨rfl,.inl ⟨rfl,rfl⟩⟩,λ g h=>by cases h⟩
theorem RowAt.upd{v:Value}{es:List Ev}(h:RowAt own t w v es)(hu:Upd T own own' w w')(ht:¬ T t):RowAt own' t w' v es :=
 ⟨Zh h.row (λ g h1 h2=>hu.same g h2 (by rw[h.own g h1];exact ht)),λ g hg=>by rw[hu.old g (Zb h.row hg).2];exact h.own g hg⟩
structure Loose(own:Own)(w:World)(a:Option Addr)(n cap:Nat)(es:List Ev):Prop where
 sl:EvSl w a n cap es
 own:∀ ad,a=some ad->own ad.block=0/\ad.block<w.heap.size
theorem RowAt.loose{v:Value}{es:List Ev}(h:RowAt own 0 w v es):∃ a cap,v = .slice a es.length cap/\Loose own w a es.length cap es:=by
 obtain⟨a,cap,rfl,hs⟩:=EvSl.ab h.row;refine⟨a,cap,rfl,hs,λ ad e=>?_⟩;subst e;exact⟨h.own _ rfl,(Zb h.row rfl).2⟩
theorem Loose.upd{a:Option Addr}{n cap:Nat}{es:List Ev}(h:Loose own w a n cap es)(hu:Upd T own own' w w')(h0:¬ T 0):Loose own' w' a n cap es :=
 ⟨h.sl.of_same (λ ad e hl=>hu.same _ hl (by rw[(h.own ad e).1];exact h0)) hu.size,λ ad e=>⟨by rw[hu.old _ (h.own ad e).2];exact(h.own ad e).1,ZR (h.own ad e).2 hu.size⟩⟩
end
end
end Go.Proofs.YtjkfognelhiepaaGreat
