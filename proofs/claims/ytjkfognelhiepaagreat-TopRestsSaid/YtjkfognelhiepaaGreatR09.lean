import Derived.Test.YtjkfognelhiepaaGreatR08
import Derived.Tactics
import Derived.Tactics2
import Derived.Defers
import Derived.Laws.Pointers
import Derived.Laws.LoneSync
import Derived.RegionCalls
import Derived.ChangeAlike
import Derived.Test.YtjkfognelhiepaaGreatR04
namespace Go.Proofs.YtjkfognelhiepaaGreat
open Go.RowKit _root_.Go.Proofs.Tryz
open Value renaming slice→S_,int→I_,bool→B_,string→T_,pointer→P_
open IntKind renaming i64→J_
open Obj renaming cells→C_
open Ending renaming returned→R_
set_option maxRecDepth 100000
set_option maxHeartbeats 8000000
variable{B b cap g n p pl t:Nat}{K:List (ByteArray×List Ev)}{L:List (ByteArray×Value)}{W w:World}{a:Option Addr}{d size:Int}{e:Ev}{k:ByteArray}{l:List Ev}{m:Option Nat}{sh:List Sh}{ss:List ByteArray}{v:Value}
theorem Zcz{w':World}(hb:L_ w w')(r:Option Nat):w.grownBy w' r:=⟨hb.os,hb.tape,hb.output,hb.size,λk hk _=>hb.block k hk⟩
theorem ZfT{base:Nat}{es:List Ev}(hr:W.ownsRow base 89 12 v (es.length+1) (evCells es++(evArr e).toList)):W.ownsRow base 89 12 v (es++[e]).length (evCells (es++[e])):=by
 have e1:evCells (es++[e])=evCells es++(evArr e).toList:=by simp[evCells]
 rw[e1,ZI];exact hr
def ZrL(L:List Ev)(v:Value)(w:World)(r:Ending)(w':World):Prop :=
 ∃v',r=R_ v'/\w'.ownsRow 0 89 12 v' L.length (evCells L)/\w.grownBy w' v.ownBlock/\(v'.ownBlock=v.ownBlock∨∀g,v'.ownBlock=some g->w.heap.size<=g)
theorem ZbQ(l:List Ev)(e:Ev)(k:Nat)(same:Ev->Bool):(ZaQ l e k same).length<=l.length:=List.length_filter_le _ _
theorem Zta(e:Ev)(hr:w.ownsRow 0 89 12 v l.length (evCells l))(hn:l.length<=100000)(hl:∀x∈l,x.r<5):
  Calls prog 164 #[v,Zaj e] w (ZrL (Z1 l e) v w):=by
 obtain⟨a,cap,rfl,hs⟩:=EvSl.ae hr;obtain⟨n,nQ⟩:∃n,n=l.length:=⟨_,rfl⟩;obtain⟨i0,hi,dd,cV,dc⟩:=info_parts ZbV;rw[←nQ]at hr hs hn ⊢;have eS:=(ZW w.heap.size w).alloc (ZL _) (C_ (evArr e) 89);have hE:=ZBn w 89 (evArr e);obtain⟨fl,fO,HR,HL,HB,lH⟩:=ZH6 (hs.below eS) (Ze hr eS) hr hl eS nQ;have xG:=hE;obtain⟨x0,x1,x2,x3,x4,x5,x6,x7,x8,x9,fh,fi⟩:=xG.ag;have ko:=xG.lt;have HE:=ZH hE;clear hr hs hl eS hE xG nQ;obtain⟨LL,gp⟩:∃LL,LL=Z1 l e:=⟨_,rfl⟩;have p9:=ZH gp;rw[←gp];clear gp;go_enter func164,ntmps164;by_cases h1:e.kind=1
 ·have b1:((e.kind:Int)==1)=true:=by simp[h1]
  have qj:Z1 l e=l++[e]:=by simp[Z1,h1]
  rw[qj]at p9;clear h1 qj;have dM:=(ZKr w).alloc (C_ (evArr e) 89) |>.alloc (C_ (evArr e) 89)
  have dO:=ZH (Ze fO.out ((ZW _ _).alloc (ZL _) (C_ (evArr e) 89)));have eB:=dM.le;have dw:=ZH dM;clear dM;go_wp2_with (at_builtin;refine Zc _ rfl (.tmp 10) (.tmp 12) _ rfl 0 89 i0 _ 12 112 underlying128 hi dd cV dc rfl ZO (S_ a n cap) n (evCells l) rfl dO.out (w.heap.size+1+1) (some ⟨w.heap.size+1,0,none⟩) 1 1 (evArr e).toList rfl (Zej _ _ _) (ZaT e) ZF ZO (Nat.zero_le _) ?_;intro v7 w7 cF db ey)
  obtain⟨qt,o5,iG⟩:=ZH3 db ey cF;clear db ey cF;go_wp2
  go_ret;refine⟨v7,rfl,?_,?_,?_⟩
  ·rw[p9.out];have:=iG.out;rw[lH.out]at this;exact ZfT this
  ·exact(Zcz dw.out.below _).trans qt.out
  ·rcases o5.out with h|h
   ·exact .inl h
   ·refine .inr λg hg=>?_
    rw[h]at hg;injection hg with hg;exact hg▸dw.out.le
 ·have b1:((e.kind:Int)==1)=false:=ZP;by_cases h2:e.kind=2
  ·have b2:((e.kind:Int)==2)=true:=by simp[h2]
   have qj:Z1 l e=ZfL (ZaQ l e 1 (λ_=>true)):=by simp[Z1,h2]
   rw[qj]at p9;clear h1 h2 qj;have vP:=ZdB fl.out ZO HL.out e 1 195 #[] (λ_=>true) (enters_of func195 ZK rfl) (λW x _ _=>by simpa using ZrG W x);have th:=ZH vP;clear vP;go_wp2_with fail;refine th.out.mono ?_;rintro _ w3 ⟨v3,rfl,dW,cG⟩;obtain⟨a3,dK,rfl,ku⟩:=EvSl.ae dW;have qq:=ZH (HB.out.trans (cG.mono HB.out.size));have tm:=Znw ku (by have:=ZbQ l e 1 (λ_=>true);have:=lH.out;omega) (λx hx=>HL.out x ((List.mem_filter.1 hx).1));have yP:=ZH tm;clear dW cG ku tm;go_wp2_with fail;refine yP.out.mono ?_;rintro _ w4 ⟨v4,rfl,cJ,cS⟩;have jl:=qq.out.trans (cS.mono qq.out.size);obtain⟨a4,ja,rfl,_⟩:=EvSl.ae cJ;obtain⟨kA,Dp⟩:=ZH2 cJ jl;clear cJ cS jl;go_wp2
   go_ret;exact⟨_,rfl,by rw[p9.out];exact Zj kA.out (Nat.zero_le _),Zcz Dp.out _,.inr λg hg=>ZT qq.out.size (Zb kA.out hg).1⟩
  ·have b2:((e.kind:Int)==2)=false:=ZP;have AL:=ZH (ZiC (e:=e) fl.out ZO HL.out);by_cases h3:e.kind=3
   ·have b3:((e.kind:Int)==3)=true:=by simp[h3]
    have qj:Z1 l e=if Zch l e=true then ZaQ l e 3 (Zdt e)++[e] else l:=by simp[Z1,h3]
    rw[qj]at p9;clear h1 h2 h3 qj;go_wp2_with fail;refine AL.out.mono ?_;rintro _ w3 ⟨rfl,cG⟩;have qq:=ZH (HB.out.trans (cG.mono HB.out.size));have kD:=HE.out.ob cG;have ku:=fl.out.below cG;clear x0 x1 x2 x3 x4 x5 x6 x7 x8 x9 fh fi ko;obtain⟨ro,i8⟩:=ZH2 kD ku;clear cG kD ku;rcases ny:Zch l e with _|_
    ·rw[ny,ZPn ZM]at p9;go_wp2
     go_ret;have jl:=qq.out;exact⟨S_ a n cap,rfl,by rw[p9.out,←lH.out];exact Ze HR.out jl,Zcz jl _,.inl rfl⟩
    ·rw[ny,ZPp rfl]at p9;go_wp2_with fail;refine wp_region_noPanic (Zdj (λw'=>K_ w3 w') [(0,3),(1,0),(2,3),(4,0)] 3 [(5,1),(6,2),(7,3)] 5 [(3,1),(6,2),(7,3)] ZK ZK (λ_ _ _ _ _ h=>h) (Kept.drew ⟨ZW _ _,ZL _⟩) (λcu=>?_));repeat((first|refine ZSa ?_|refine ZSb ?_|(refine Zf rfl (by rfl) (λw' cL=>by obtain⟨x0,x1,x2,x3,x4,x5,x6,x7,x8,x9,fh,fi⟩:=(ro.out.ob cL.below).ag;go_simp;with_reducible rfl) ?_));simp only[Act.put,Q_])
     refine ZfP (λcu=>?_) (λcu=>?_);focus
      refine ZSd λK hK=>?_
      go_simp;refine(ZdB (w:=w3.drew) (i8.out.below (ZW _ _).drew) ZO HL.out e 3 197 #[P_ (some ⟨w.heap.size,0,none⟩)] (Zdt e) (enters_of func197 ZK rfl) (λW x _ hW=>by simpa using ZlG (ro.out.drew.ob hW) x)).mono ?_;rintro _ w4 ⟨v4,rfl,cJ,cS⟩;obtain⟨a4,ja,rfl,_⟩:=EvSl.ae cJ;refine hK.out (λw'=>K_ w3 w') _ _ (λ_ h=>h) (cu.step cS) (λjJ=>?_);clear hK K;have dO:=ZH cJ;clear cJ;repeat((first|refine ZSa ?_|refine ZSb ?_|refine ZSc ?_);simp only[Act.put,Q_])
      refine ZSd λK hK=>?_
      go_simp;refine hK.out (λw'=>K_ w3 w') _ _ (λ_ h=>h) (jJ.alloc _) (λms=>?_);clear hK K;refine ZSe λK hK=>?_
      refine Za9 _ (.tmp 30) (.tmp 32) _ rfl 0 89 i0 _ 12 112 underlying128 hi dd cV dc rfl ZO _ _ (evCells (ZaQ l e 3 (Zdt e))) rfl (Zj (Ze dO.out ((ZW w4.heap.size w4).alloc (ZL _) (C_ (evArr e) 89))) (Nat.zero_le _)) (w4.heap.size+1) (some ⟨w4.heap.size,0,none⟩) 1 1 (evArr e).toList rfl (Zcj w4 e) (ZaT e) (by have:=ZbQ l e 3 (Zdt e);have:=lH.out;simp only[maxLen];omega) (by have:=ZbQ l e 3 (Zdt e);have:=lH.out;omega) (Nat.zero_le _) ?_;intro v7 w7 cF db ey;obtain⟨kA,qt,o5,p7⟩:=ZH4 (ZfT cF) db ey (show ∀g,Value.ownBlock _=some g->w.heap.size<=g from λg hg=>ZT qq.out.size (Zb (Ze dO.out ((ZW w4.heap.size w4).alloc (ZL _) (C_ (evArr e) 89))) hg).1)
     rotate_left
     focus
      refine ZSd λK hK=>?_
      go_simp;have hX:=ZBn w3.drew 89 (evArr e);have zx:=(ZW w3.drew.heap.size w3.drew).alloc (ZL _) (C_ (evArr e) 89);refine hK.out (λw'=>K_ w3 w') _ _ (λ_ h=>h) (cu.alloc (C_ (evArr e) 89)) (λjJ=>?_);clear hK K;obtain⟨HX,lc⟩:=ZH2 hX zx;clear hX zx;have vP:=ZdB (w:=w3.drew.alloc (C_ (evArr e) 89)) ((i8.out.below (ZW _ _).drew).below lc.out) ZO HL.out e 3 197 #[P_ (some ⟨w.heap.size,0,none⟩)] (Zdt e) (enters_of func197 ZK rfl) (λW x _ hW=>by simpa using ZlG ((ro.out.drew.ob lc.out).ob hW) x);have th:=ZH vP;clear vP;repeat((first|refine ZSa ?_|refine ZSb ?_|refine ZSc ?_);simp only[Act.put,Q_])
      refine ZSd λK hK=>?_
      go_simp;refine th.out.mono ?_;rintro _ w4 ⟨v4,rfl,cJ,cS⟩;obtain⟨a4,ja,rfl,_⟩:=EvSl.ae cJ;refine hK.out (λw'=>K_ w3 w') _ _ (λ_ h=>h) (jJ.step cS) (λms=>?_);clear hK K;have dO:=ZH cJ;have nr:=HX.out.ob cS;clear cJ;refine ZSe λK hK=>?_
      refine Za9 _ (.tmp 30) (.tmp 32) _ rfl 0 89 i0 _ 12 112 underlying128 hi dd cV dc rfl ZO _ _ (evCells (ZaQ l e 3 (Zdt e))) rfl (Zj dO.out (Nat.zero_le _)) (w4.heap.size) (some ⟨w3.heap.size,0,none⟩) 1 1 (evArr e).toList rfl (Reads.aA (n:=1) (xs:=(evArr e).toList) nr rfl) (ZaT e) (by have:=ZbQ l e 3 (Zdt e);have:=lH.out;simp only[maxLen];omega) (by have:=ZbQ l e 3 (Zdt e);have:=lH.out;omega) (Nat.zero_le _) ?_;intro v7 w7 cF db ey;obtain⟨kA,qt,o5,p7⟩:=ZH4 (ZfT cF) db ey (show ∀g,Value.ownBlock _=some g->w.heap.size<=g from λg hg=>ZT qq.out.size (Zb (Zj dO.out lc.out.size) hg).1)
     rotate_left
     all_goals
      have nX:=ZH ms;clear cF db ey;refine hK.out _ _ ?_;clear hK K;repeat((first|refine ZSa ?_|refine ZSb ?_|refine ZSc ?_);simp only[Act.put,Q_])
      refine ZSf ?_;go_wp2
      go_ret;have qX:=qq.out.trans (nX.out.below.mono qq.out.size);have dz:L_ w w7:=qX.grown qt.out qX.size p7.out;refine⟨v7,rfl,by rw[p9.out];exact kA.out,Zcz dz _,.inr λg hg=>?_⟩;rcases o5.out with h|h
      ·exact p7.out g (h.symm.trans hg)
      ·rw[h]at hg;injection hg with hg;rw[←hg];exact qX.size
   ·have b3:((e.kind:Int)==3)=false:=ZP;by_cases h5:e.kind=5
    ·have b5:((e.kind:Int)==5)=true:=by simp[h5]
     have qj:Z1 l e=ZaQ l e 4 (Zb6 e):=by simp[Z1,h5]
     rw[qj]at p9;clear h1 h2 h3 h5 qj;have vP:=ZdB fl.out ZO HL.out e 4 198 #[P_ (some ⟨w.heap.size,0,none⟩)] (Zb6 e) (enters_of func198 ZK rfl) (λW x _ hW=>by simpa using Zii (HE.out.ob hW) x);have th:=ZH vP;clear vP;go_wp2_with fail;refine th.out.mono ?_;rintro _ w4 ⟨v4,rfl,cJ,cS⟩;have jl:=HB.out.trans (cS.mono HB.out.size);obtain⟨a4,ja,rfl,_⟩:=EvSl.ae cJ;obtain⟨kA,Dp⟩:=ZH2 cJ jl;clear cJ cS jl;go_wp2
     go_ret;exact⟨_,rfl,by rw[p9.out];exact Zj kA.out (Nat.zero_le _),Zcz Dp.out _,.inr λg hg=>ZT HB.out.size (Zb kA.out hg).1⟩
    ·have b5:((e.kind:Int)==5)=false:=ZP;have qj:Z1 l e=if Zch l e=true then ZaQ l e 4 (Zb6 e)++[e] else l:=by simp[Z1,h1,h2,h3,h5]
     rw[qj]at p9;clear h1 h2 h3 h5 qj;go_wp2_with fail;refine AL.out.mono ?_;rintro _ w3 ⟨rfl,cG⟩;have qq:=ZH (HB.out.trans (cG.mono HB.out.size));have kD:=HE.out.ob cG;have ku:=fl.out.below cG;clear x0 x1 x2 x3 x4 x5 x6 x7 x8 x9 fh fi ko;obtain⟨ro,i8⟩:=ZH2 kD ku;clear cG kD ku;rcases ny:Zch l e with _|_
     ·rw[ny,ZPn ZM]at p9;go_wp2
      go_ret;have jl:=qq.out;exact⟨S_ a n cap,rfl,by rw[p9.out,←lH.out];exact Ze HR.out jl,Zcz jl _,.inl rfl⟩
     ·rw[ny,ZPp rfl]at p9;go_wp2_with fail;refine wp_region_noPanic (Zdj (λw'=>K_ w3 w') [(0,3),(1,0),(2,3),(4,0)] 3 [(5,1),(6,2),(7,3)] 5 [(3,1),(6,2),(7,3)] ZK ZK (λ_ _ _ _ _ h=>h) (Kept.drew ⟨ZW _ _,ZL _⟩) (λcu=>?_));repeat((first|refine ZSa ?_|refine ZSb ?_|(refine Zf rfl (by rfl) (λw' cL=>by obtain⟨x0,x1,x2,x3,x4,x5,x6,x7,x8,x9,fh,fi⟩:=(ro.out.ob cL.below).ag;go_simp;with_reducible rfl) ?_));simp only[Act.put,Q_])
      refine ZfP (λcu=>?_) (λcu=>?_);focus
       refine ZSd λK hK=>?_
       go_simp;refine(ZdB (w:=w3.drew) (i8.out.below (ZW _ _).drew) ZO HL.out e 4 198 #[P_ (some ⟨w.heap.size,0,none⟩)] (Zb6 e) (enters_of func198 ZK rfl) (λW x _ hW=>by simpa using Zii (ro.out.drew.ob hW) x)).mono ?_;rintro _ w4 ⟨v4,rfl,cJ,cS⟩;obtain⟨a4,ja,rfl,_⟩:=EvSl.ae cJ;refine hK.out (λw'=>K_ w3 w') _ _ (λ_ h=>h) (cu.step cS) (λjJ=>?_);clear hK K;have dO:=ZH cJ;clear cJ;repeat((first|refine ZSa ?_|refine ZSb ?_|refine ZSc ?_);simp only[Act.put,Q_])
       refine ZSd λK hK=>?_
       go_simp;refine hK.out (λw'=>K_ w3 w') _ _ (λ_ h=>h) (jJ.alloc _) (λms=>?_);clear hK K;refine ZSe λK hK=>?_
       refine Za9 _ (.tmp 50) (.tmp 52) _ rfl 0 89 i0 _ 12 112 underlying128 hi dd cV dc rfl ZO _ _ (evCells (ZaQ l e 4 (Zb6 e))) rfl (Zj (Ze dO.out ((ZW w4.heap.size w4).alloc (ZL _) (C_ (evArr e) 89))) (Nat.zero_le _)) (w4.heap.size+1) (some ⟨w4.heap.size,0,none⟩) 1 1 (evArr e).toList rfl (Zcj w4 e) (ZaT e) (by have:=ZbQ l e 4 (Zb6 e);have:=lH.out;simp only[maxLen];omega) (by have:=ZbQ l e 4 (Zb6 e);have:=lH.out;omega) (Nat.zero_le _) ?_;intro v7 w7 cF db ey;obtain⟨kA,qt,o5,p7⟩:=ZH4 (ZfT cF) db ey (show ∀g,Value.ownBlock _=some g->w.heap.size<=g from λg hg=>ZT qq.out.size (Zb (Ze dO.out ((ZW w4.heap.size w4).alloc (ZL _) (C_ (evArr e) 89))) hg).1)
      rotate_left
      focus
       refine ZSd λK hK=>?_
       go_simp;have hX:=ZBn w3.drew 89 (evArr e);have zx:=(ZW w3.drew.heap.size w3.drew).alloc (ZL _) (C_ (evArr e) 89);refine hK.out (λw'=>K_ w3 w') _ _ (λ_ h=>h) (cu.alloc (C_ (evArr e) 89)) (λjJ=>?_);clear hK K;obtain⟨HX,lc⟩:=ZH2 hX zx;clear hX zx;have vP:=ZdB (w:=w3.drew.alloc (C_ (evArr e) 89)) ((i8.out.below (ZW _ _).drew).below lc.out) ZO HL.out e 4 198 #[P_ (some ⟨w.heap.size,0,none⟩)] (Zb6 e) (enters_of func198 ZK rfl) (λW x _ hW=>by simpa using Zii ((ro.out.drew.ob lc.out).ob hW) x);have th:=ZH vP;clear vP;repeat((first|refine ZSa ?_|refine ZSb ?_|refine ZSc ?_);simp only[Act.put,Q_])
       refine ZSd λK hK=>?_
       go_simp;refine th.out.mono ?_;rintro _ w4 ⟨v4,rfl,cJ,cS⟩;obtain⟨a4,ja,rfl,_⟩:=EvSl.ae cJ;refine hK.out (λw'=>K_ w3 w') _ _ (λ_ h=>h) (jJ.step cS) (λms=>?_);clear hK K;have dO:=ZH cJ;have nr:=HX.out.ob cS;clear cJ;refine ZSe λK hK=>?_
       refine Za9 _ (.tmp 50) (.tmp 52) _ rfl 0 89 i0 _ 12 112 underlying128 hi dd cV dc rfl ZO _ _ (evCells (ZaQ l e 4 (Zb6 e))) rfl (Zj dO.out (Nat.zero_le _)) (w4.heap.size) (some ⟨w3.heap.size,0,none⟩) 1 1 (evArr e).toList rfl (Reads.aA (n:=1) (xs:=(evArr e).toList) nr rfl) (ZaT e) (by have:=ZbQ l e 4 (Zb6 e);have:=lH.out;simp only[maxLen];omega) (by have:=ZbQ l e 4 (Zb6 e);have:=lH.out;omega) (Nat.zero_le _) ?_;intro v7 w7 cF db ey;obtain⟨kA,qt,o5,p7⟩:=ZH4 (ZfT cF) db ey (show ∀g,Value.ownBlock _=some g->w.heap.size<=g from λg hg=>ZT qq.out.size (Zb (Zj dO.out lc.out.size) hg).1)
      rotate_left
      all_goals
       have nX:=ZH ms;clear cF db ey;refine hK.out _ _ ?_;clear hK K;repeat((first|refine ZSa ?_|refine ZSb ?_|refine ZSc ?_);simp only[Act.put,Q_])
       refine ZSf ?_;go_wp2
       go_ret;have qX:=qq.out.trans (nX.out.below.mono qq.out.size);have dz:L_ w w7:=qX.grown qt.out qX.size p7.out;refine⟨v7,rfl,by rw[p9.out];exact kA.out,Zcz dz _,.inr λg hg=>?_⟩;rcases o5.out with h|h
       ·exact p7.out g (h.symm.trans hg)
       ·rw[h]at hg;injection hg with hg;rw[←hg];exact qX.size
abbrev liveArr(d s:Int)(m:Option Nat)(size:Int):Array Value:=#[.int .u32 d,.int .i32 s,.int .u32 0,.map m,I_ J_ size]
theorem Zsm(w:World):Calls prog 127 #[] w λr w'=>r=R_ (P_ (some ⟨w.heap.size,0,none⟩))/\w'=w.alloc (C_ (liveArr 0 0 none 0) 213):=by
 go_enter func127,ntmps127;go_wp2
 go_ret;exact⟨rfl,rfl⟩
theorem disable(w:World):(callFunc 245 #[]).run prog w=.ok (.value (.tuple #[])) w:=run_call_mark0 func245 ZK ZK ZK .disable ZK w
theorem enable(w:World):(callFunc 247 #[]).run prog w=.ok (.value (.tuple #[])) w:=run_call_mark0 func247 ZK ZK ZK .enable ZK w
theorem acquire(a:Addr)(w:World):(callFunc 248 #[P_ (some a)]).run prog w=.ok (.value (.tuple #[])) w:=run_call_marked func248 ZK ZK ZK .acquire ZK a w
theorem releaseMerge(a:Addr)(w:World):(callFunc 250 #[P_ (some a)]).run prog w=.ok (.value (.tuple #[])) w:=run_call_marked func250 ZK ZK ZK .releaseMerge ZK a w
theorem ZkO(a:Addr)(x:Value)(u:FrameMode)(w:World)(hc:w.cell? a=some x)(hz:w.frozen? a=false):
  CallsD prog 226 #[P_ (some a),B_ true] u w λe u' w'=>u'=u/\(e=R_ (.tuple #[])/\w'=w.drew.setCell a (.int .u32 1)):=by
 have Gv:w.drew.cell? a=some x:=by go_simp
 have Wm:w.drew.frozen? a=false:=by go_simp
 have eP:=run_call_store (P:=prog) func242 ZK ZK ZK ZK (k := .u32) (y:=1) Gv Wm;go_enter_d func226,ntmps226
 go_wp2
 go_region_calls
 all_goals(go_end0;exact⟨rfl,rfl⟩)
theorem Zkl(a:Addr)(u:FrameMode)(w:World)(hc:w.cell? a=some (.int .i32 1))(hz:w.frozen? a=false):
  CallsD prog 225 #[P_ (some a)] u w λe u' w'=>u'=u/\(e=R_ (.tuple #[])/\w'=w.setCell a (.int .i32 0)):=by
 have hd:=disable;have he:=enable;have hr:=releaseMerge;have Gg:=run_call_add (P:=prog) func251 ZK ZK ZK .i32 ZK (y := -1) (s:=0) hc hz (by simp[go_sem];rfl);have VK:=run_convert_to_unsafe (P:=prog) (src:=354) (dst:=358) underlying354 underlying358 ZK hc;go_enter_d func225,ntmps225
 go_wp2
 go_end0
 go_wp2
 go_end0
 exact⟨rfl,rfl⟩
theorem ZqQ(a:Addr)(w:World)(hc:w.cell? a=some (.int .i32 0))(hz:w.frozen? a=false):
  Calls prog 224 #[P_ (some a)] w λe w'=>e=R_ (.tuple #[])/\w'=w.setCell a (.int .i32 1):=by
 have hd:=disable;have he:=enable;have ha:=acquire;have hcas:=run_call_cas_hit (P:=prog) func246 ZK ZK ZK .i32 ZK (y:=1) hc hz;have Gv:(w.setCell a (.int .i32 1)).cell? a=some (.int .i32 1):=World.cell?_setCell_same w a _ hc;have VK:=run_convert_to_unsafe (P:=prog) (src:=354) (dst:=358) underlying354 underlying358 ZK Gv;go_enter func224,ntmps224;go_wp2
 first|go_end0|(simp only[Exit.inBlock,Exit.then];refine bodyPost_ret (results_none rfl _ _ _) rfl ?_)|refine bodyPost_ret (results_none rfl _ _ _) rfl ?_
 go_wp2
 go_end0
 exact⟨rfl,rfl⟩
theorem Zt7(hp:w.cell? ⟨pl,0,none⟩=some (P_ (some ⟨b,0,none⟩))){s:Int}(hb:Blk w b 213 (liveArr d s none size)):
  Calls prog 163 #[P_ (some ⟨pl,0,none⟩)] w λr w'=>r=R_ (.tuple #[])/\w'=(w.setCell ⟨b,3,none⟩ (.map (some w.heap.size))).alloc (.map #[] 0):=by
 have cI:=hb.lt;have cD:=hb.alloc (.map #[] 0);have jp:(Instr.makeMap 197 none).run prog w=.ok (.map (some w.heap.size)) (w.alloc (.map #[] 0)):=by first|rfl|simp[Instr.makeMap,go_sem]
 have m3:=cD.cell 3;have f3:=cD.frozen 3;simp only[ZD,ZE,ZG]at m3;clear hb cD;go_enter func163,ntmps163;go_wp2_with fail;go_end0
 exact⟨rfl,rfl⟩
theorem ZcX{s:Int}(hb:Blk w b 213 (liveArr d s m size)):w.cell? ⟨b,0,none⟩=some (.int .u32 d)/\w.cell? ⟨b,1,none⟩=some (.int .i32 s)/\w.cell? ⟨b,2,none⟩=some (.int .u32 0)/\w.cell? ⟨b,3,none⟩=some (.map m)/\w.cell? ⟨b,4,none⟩=some (I_ J_ size) :=
 ⟨hb.cell 0,hb.cell 1,hb.cell 2,hb.cell 3,hb.cell 4⟩
def Zi8(b:Nat)(size:Int)(w:World)(r:Ending)(w':World):Prop:=r=R_ (.tuple #[])/\∃m,Blk w' b 213 (liveArr 1 0 (some m) size)/\w'.heap[m]? = some (.map #[] 0)/\w.heap.size<=m/\w.grownBy w' (some b)
theorem Zfk(w:World)(b i:Nat)(v:Value):w.grownBy (w.setCell ⟨b,i,none⟩ v) (some b) :=
 ⟨rfl,rfl,rfl,by simp[World.setCell],λk _ hn=>Below.heap_setCell _ _ _ _ (λe=>hn (by rw[e]))⟩
theorem Zfj(w:World)(r:Option Nat):w.grownBy w.drew r:=⟨rfl,rfl,rfl,ZL _,λ_ _ _=>rfl⟩
theorem Zq3(hp:w.cell? ⟨pl,0,none⟩=some (P_ (some ⟨b,0,none⟩)))(hb:Blk w b 213 (liveArr 0 0 none size)):
  Calls prog 192 #[P_ (some ⟨b,0,none⟩),.func (.func 163) #[] #[P_ (some ⟨pl,0,none⟩)]] w (Zi8 b size w):=by
 have cz:Blk (w.setCell ⟨b,1,none⟩ (.int .i32 1)) b 213 (liveArr 0 1 none size):=hb.aj 1 (.int .i32 1);have kS:(w.setCell ⟨b,1,none⟩ (.int .i32 1)).cell? ⟨pl,0,none⟩=some (P_ (some ⟨b,0,none⟩)):=(World.cell?_setCell_other _ ⟨b,1,none⟩ ⟨pl,0,none⟩ _ ZM).trans hp;obtain⟨c0,c1,c2,c3,c4⟩:=ZcX hb;obtain⟨d0,d1,d2,d3,d4⟩:=ZcX cz;have f1:=hb.frozen 1;have hl:=run_call_load (P:=prog) func223 ZK ZK ZK .u32 ZK d0;have eC:=N_
 have cI:=hb.lt;obtain⟨HB,dj,Lj⟩:=ZH3 hb cz (Zt7 kS cz);clear hb cz;go_enter_defers func192,ntmps192
 go_wp2_with (first
  |(go_at_call 224;refine(ZqQ ⟨b,1,none⟩ _ c1 f1).mono ?_;rintro e w' ⟨rfl,rfl⟩)
  |(go_at_call 191;go_in)
  |(go_at_call 163;refine Lj.out.mono ?_;rintro e w' ⟨rfl,rfl⟩))
 have cD:Blk (((w.setCell ⟨b,1,none⟩ (.int .i32 1)).setCell ⟨b,3,none⟩ (.map (some w.heap.size))).alloc (.map #[] 0)) b 213 (liveArr 0 1 (some w.heap.size) size):=((HB.out.aj 1 (.int .i32 1)).aj 3 (.map (some w.heap.size))).alloc _;have eQ:w.grownBy (((w.setCell ⟨b,1,none⟩ (.int .i32 1)).setCell ⟨b,3,none⟩ (.map (some w.heap.size))).alloc (.map #[] 0)) (some b):=((Zfk w b 1 _).trans (Zfk _ b 3 _)).trans (Zcz ((ZW _ _).alloc (ZL _) _) _);have jP:(((w.setCell ⟨b,1,none⟩ (.int .i32 1)).setCell ⟨b,3,none⟩ (.map (some w.heap.size))).alloc (.map #[] 0)).heap[w.heap.size]? = some (.map #[] 0):=by
  have h1:((w.setCell ⟨b,1,none⟩ (.int .i32 1)).setCell ⟨b,3,none⟩ (.map (some w.heap.size))).heap.size=w.heap.size:=by simp[World.setCell]
  have:=heap_alloc_new ((w.setCell ⟨b,1,none⟩ (.int .i32 1)).setCell ⟨b,3,none⟩ (.map (some w.heap.size))) (.map #[] 0);rw[h1]at this;exact this
 generalize (((w.setCell ⟨b,1,none⟩ (.int .i32 1)).setCell ⟨b,3,none⟩ (.map (some w.heap.size))).alloc (.map #[] 0))=W at *;refine leaves_cons (f:=226) (args:=#[P_ (some ⟨b,0,none⟩),B_ true]) ZM (by simp[go_sem]) ?_;refine(ZkO ⟨b,0,none⟩ (.int .u32 0) .returning _ (cD.cell 0) (cD.frozen 0)).mono ?_;rintro e u' Av ⟨rfl,rfl,rfl⟩;have cG:Blk (W.drew.setCell ⟨b,0,none⟩ (.int .u32 1)) b 213 (liveArr 1 1 (some w.heap.size) size):=cD.drew.aj 0 _;refine leaves_cons (f:=225) (args:=#[P_ (some ⟨b,1,none⟩)]) (by simp[settle]) (by simp[go_sem]) ?_;refine(Zkl ⟨b,1,none⟩ _ _ (cG.cell 1) (cG.frozen 1)).mono ?_;rintro e u' Av ⟨rfl,rfl,rfl⟩;have cS:Blk ((W.drew.setCell ⟨b,0,none⟩ (.int .u32 1)).setCell ⟨b,1,none⟩ (.int .i32 0)) b 213 (liveArr 1 0 (some w.heap.size) size):=cG.aj 1 _;have dR:w.heap.size≠b:=ZO;have dz:Zi8 b size w (R_ (.tuple #[])) ((W.drew.setCell ⟨b,0,none⟩ (.int .u32 1)).setCell ⟨b,1,none⟩ (.int .i32 0)) :=
  ⟨rfl,w.heap.size,cS,(Below.heap_setCell _ _ _ _ dR).trans ((Below.heap_setCell _ _ _ _ dR).trans jP),ZL _,((eQ.trans (Zfj W _)).trans (Zfk _ b 0 _)).trans (Zfk _ b 1 _)⟩
 simp[Leaves,settle,results,Tryz.results192];exact dz
theorem Zpw(hp:w.cell? ⟨pl,0,none⟩=some (P_ (some ⟨b,0,none⟩)))(hb:Blk w b 213 (liveArr 0 0 none size)):
  Calls prog 162 #[P_ (some ⟨b,0,none⟩),.func (.func 163) #[] #[P_ (some ⟨pl,0,none⟩)]] w (Zi8 b size w):=by
 obtain⟨c0,c1,c2,c3,c4⟩:=ZcX hb;have hl:=run_call_load (P:=prog) func223 ZK ZK ZK .u32 ZK c0;have eC:=N_
 have jV:=ZH (Zq3 hp hb);clear hb hp;go_enter func162,ntmps162
 go_wp2_with (first
  |(go_at_call 191;go_in)
  |(go_at_call 192;refine jV.out.mono ?_;rintro e w' ⟨rfl,HM⟩))
 go_end0
 exact⟨rfl,HM⟩
theorem Zpv(hb:Blk w b 213 (liveArr 1 0 m size))(fv:Value):
  Calls prog 162 #[P_ (some ⟨b,0,none⟩),fv] w λr w'=>r=R_ (.tuple #[])/\w'=w:=by
 obtain⟨c0,c1,c2,c3,c4⟩:=ZcX hb;have hl:=run_call_load (P:=prog) func223 ZK ZK ZK .u32 ZK c0;have eC:=N_
 clear hb;go_enter func162,ntmps162;go_wp2
 go_end0
 exact⟨rfl,rfl⟩
theorem Zts{s:Int}(hb:Blk w b 213 (liveArr d s m size))(n:Int):
  Calls prog 165 #[P_ (some ⟨b,4,none⟩),I_ J_ n] w λr w'=>(∃v,r=R_ v)/\w'=w.setCell ⟨b,4,none⟩ (I_ J_ (wrap64 (size+n))):=by
 obtain⟨c0,c1,c2,c3,c4⟩:=ZcX hb;have f4:=hb.frozen 4;have Gg:=run_call_add (P:=prog) func199 ZK ZK ZK .i64 ZK (y:=n) (s:=IntKind.i64.wrap (size+n)) c4 f4 (by simp[go_sem]);clear hb;go_enter func165,ntmps165;go_wp2
 go_ret;exact⟨⟨_,rfl⟩,rfl⟩
section
open Go.RowKit Go.MapKept
section
variable {β γ : Type}
def atK(T:List (ByteArray × β))(k:ByteArray):Option Nat:=T.findIdx? λp=>decide (p.1=k)
def Zar(T:List (ByteArray × β))(k:ByteArray):Option β := (T.find? λp=>decide (p.1=k)).map (·.2)
def Zc6(T:List (ByteArray × β))(k:ByteArray)(x : β):List (ByteArray × β):=match atK T k with|some i=>T.set i (k,x)|none=>T++[(k,x)]
def ZcZ(T:List (ByteArray × β))(k:ByteArray):List (ByteArray × β):=match atK T k with|some i=>T.eraseIdx i|none=>T
theorem Zod(f : β -> γ)(T:List (ByteArray × β))(k:ByteArray):atK (T.map λp=>(p.1,f p.2)) k=atK T k:=by
 unfold atK;rw[List.findIdx?_map];rfl
theorem ZgZ(f : β -> γ)(T:List (ByteArray × β))(k:ByteArray):Zar (T.map λp=>(p.1,f p.2)) k=(Zar T k).map f:=by
 unfold Zar;rw[List.find?_map,Option.map_map,Option.map_map];rfl
theorem Zm3(f : β -> γ)(T:List (ByteArray × β))(k:ByteArray)(x : β):Zc6 (T.map λp=>(p.1,f p.2)) k (f x)=(Zc6 T k x).map λp=>(p.1,f p.2):=by
 unfold Zc6;rw[Zod]
 cases atK T k with
 |none=>simp
 |some i=>simp[List.map_set]
theorem Zmu(f : β -> γ)(T:List (ByteArray × β))(k:ByteArray):ZcZ (T.map λp=>(p.1,f p.2)) k=(ZcZ T k).map λp=>(p.1,f p.2):=by
 unfold ZcZ;rw[Zod]
 cases atK T k with
 |none=>rfl
 |some i=>simp[Zdp]
theorem Zqa(T:List (ByteArray×Value))(k:ByteArray):ZdF T k=atK T k:=by
 unfold ZdF atK;congr
theorem Zt9(T:List (ByteArray×Value))(k:ByteArray)(v:Value):Zfp T k v=Zc6 T k v:=by
 unfold Zfp Zc6;rw[Zqa]
 cases atK T k <;> rfl
theorem ZtB(T:List (ByteArray×Value))(k:ByteArray):Zl6 T k=ZcZ T k:=by
 unfold Zl6 ZcZ;rw[Zqa]
 cases atK T k <;> rfl
theorem ZtQ(T:List (ByteArray×Value))(k:ByteArray):Zfi T k=Zar T k:=by
 unfold Zfi Zar;congr
theorem Zme{T:List (ByteArray × β)}{i:Nat}(h:atK T k=some i):∃x,T[i]? = some (k,x)/\Zar T k=some x/\i<T.length:=by
 unfold atK at h;obtain⟨hi,h1,h2⟩:=List.findIdx?_eq_some_iff_getElem.1 h;have hk:T[i].1=k:=by simpa using h1
 refine⟨T[i].2,by rw[ZX hi,←hk],?_,hi⟩;have hf:T.find? (λp=>decide (p.1=k))=some T[i]:=by
  rw[List.find?_eq_some_iff_getElem];exact⟨h1,i,hi,rfl,λj hj=>by simpa using h2 j hj⟩
 unfold Zar;rw[hf];rfl
theorem ZrO{T:List (ByteArray × β)}(h:atK T k=none):Zar T k=none:=by
 unfold atK at h;unfold Zar;rw[find_none_of_idx h];rfl;where
 find_none_of_idx {T:List (ByteArray × β)} {p:ByteArray × β -> Bool} (h:T.findIdx? p=none):T.find? p=none:=by
  rw[List.findIdx?_eq_none_iff]at h;rw[List.find?_eq_none];intro x hx;simp[h x hx]
end
theorem Zks:Enc .string Value.string:=⟨λ_=>trivial,λa b h=>by injection h⟩
abbrev Kept3:=List (ByteArray×(List Ev×Value))
def keptVals(T:Kept3):List (ByteArray×Value):=T.map λp=>(p.1,p.2.2)
def keptEvs(T:Kept3):List (ByteArray×List Ev):=T.map λp=>(p.1,p.2.1)
structure KeptRows(own:Own)(t:Nat)(w:World)(T:Kept3):Prop where
 row:∀p∈T,RowAt own t w p.2.2 p.2.1
 apart:∀(i j:Nat) (p q:ByteArray×(List Ev×Value)),T[i]? = some p->T[j]? = some q->i≠j->Apart p.2.2 q.2.2
structure LiveAt(own:Own)(t:Nat)(w:World)(p:Nat)(K:List (ByteArray×List Ev)):Prop where
 mine:own p=t
 ex:∃(d:Int) (m:Option Nat) (size:Int) (T:Kept3),Blk w p 213 (liveArr d 0 m size)/\keptEvs T=K/\KeptRows own t w T/\((d=0/\m=none/\T=[])∨(d=1/\∃mb,m=some mb/\own mb=t/\MapKV Value.string w mb (keptVals T)))
section
variable {own own':Own}{t p:Nat}{w w':World}{K:List (ByteArray×List Ev)}{T:Kept3}{S:Nat->Prop}
theorem KeptRows.upd(h:KeptRows own t w T)(hu:Upd S own own' w w')(ht:¬S t):KeptRows own' t w' T:=⟨λx hx=>(h.row x hx).upd hu ht,h.apart⟩
theorem LiveAt.upd(h:LiveAt own t w p K)(hu:Upd S own own' w w')(ht:¬S t):LiveAt own' t w' p K:=by
 obtain⟨h1,d,m,size,T,h2,h3,h4,h5⟩:=h;refine⟨by rw[hu.old p h2.lt];exact h1,d,m,size,T,h2.upd hu (by rw[h1];exact ht),h3,h4.upd hu ht,?_⟩;rcases h5 with h5|⟨hd,mb,h6,h7,h8⟩
 ·exact .inl h5
 ·exact .inr ⟨hd,mb,h6,by rw[hu.old mb h8.lt];exact h7,h8.of_same (hu.same mb h8.lt (by rw[h7];exact ht))⟩
end
section
variable {own own':Own}{t:Nat}{w w':World}{T:Kept3}
theorem KeptRows.put{J2:List Ev}{v':Value}(h:KeptRows own t w T)(cT:RowAt own' t w' v' J2)(jd:∀(j:Nat) (p:ByteArray×(List Ev×Value)),T[j]? = some p->atK T k≠some j->RowAt own' t w' p.2.2 p.2.1/\Apart p.2.2 v'):KeptRows own' t w' (Zc6 T k (J2,v')):=by
 unfold Zc6
 cases iy:atK T k with
 |none =>
  refine⟨λp hp=>?_,λi j p q hi hj pI=>?_⟩
  ·rcases List.mem_append.1 hp with hp|hp
   ·obtain⟨j,hj⟩:=List.mem_iff_getElem?.1 hp;exact(jd j p hj (by simp[iy])).1
   ·simp at hp;subst hp;exact cT
  ·rw[List.getElem?_append]at hi hj;split at hi <;> split at hj
   ·exact h.apart i j p q hi hj pI
   ·have:q=(k,(J2,v')):=by rw[List.getElem?_singleton]at hj;split at hj <;> simp_all
    subst this;exact(jd i p hi (by simp[iy])).2
   ·have:p=(k,(J2,v')):=by rw[List.getElem?_singleton]at hi;split at hi <;> simp_all
    subst this;exact(jd j q hj (by simp[iy])).2.symm
   ·rw[List.getElem?_singleton]at hi hj;split at hi <;> split at hj
    ·omega
    all_goals simp_all
 |some i0 =>
  obtain⟨x,hx,_,cI⟩:=Zme iy;refine⟨λp hp=>?_,λi j p q hi hj pI=>?_⟩
  ·obtain⟨j,hj⟩:=List.mem_iff_getElem?.1 hp;rw[List.getElem?_set]at hj;split at hj
   ·injection hj with hj
    subst hj;exact cT
   ·rename_i dR;exact(jd j p hj (by rw[iy];intro e;injection e with e;exact dR e)).1
  ·rw[List.getElem?_set]at hi hj;split at hi
   ·rename_i e1;split at hj
    ·rename_i e2;exact absurd (e1.symm.trans e2) pI
    ·rename_i e2;injection hi with hi;subst hi;exact(jd j q hj (by rw[iy];intro e;injection e with e;exact e2 e)).2.symm
   ·rename_i e1;split at hj
    ·injection hj with hj
     subst hj;exact(jd i p hi (by rw[iy];intro e;injection e with e;exact e1 e)).2
    ·exact h.apart i j p q hi hj pI
theorem KeptRows.del(h:KeptRows own t w T)(jd:∀(j:Nat) (p:ByteArray×(List Ev×Value)),T[j]? = some p->atK T k≠some j->RowAt own' t w' p.2.2 p.2.1):KeptRows own' t w' (ZcZ T k):=by
 unfold ZcZ
 cases iy:atK T k with
 |none=>exact⟨λp hp=>by
   obtain⟨j,hj⟩:=List.mem_iff_getElem?.1 hp
   exact jd j p hj (by simp[iy]),h.apart⟩
 |some i0 =>
  have lr:∀(j:Nat) (p:ByteArray×(List Ev×Value)),(T.eraseIdx i0)[j]? = some p->∃j',T[j']? = some p/\j'≠i0/\j'=(if j<i0 then j else j+1):=by
   intro j p hj;rw[List.getElem?_eraseIdx]at hj;split at hj
   ·rename_i cI;exact⟨j,hj,ZO,by rw[ZPp cI]⟩
   ·rename_i cI;exact⟨j+1,hj,ZO,by rw[ZPn cI]⟩
  refine⟨λp hp=>?_,λi j p q hi hj pI=>?_⟩
  ·obtain⟨j,hj⟩:=List.mem_iff_getElem?.1 hp;obtain⟨j',h1,h2,_⟩:=lr j p hj;exact jd j' p h1 (by rw[iy];intro e;injection e with e;exact h2 e.symm)
  ·obtain⟨i',h1,_,h3⟩:=lr i p hi;obtain⟨j',g1,_,g3⟩:=lr j q hj;refine h.apart i' j' p q h1 g1 ?_;rw[h3,g3];split <;> split <;> omega
end
def ZuQ(b:Nat)(m:Option Nat)(size:Int)(L:List (ByteArray×Value))(w:World)(r:Ending)(w':World):Prop :=
 r=R_ (.tuple #[])/\∃mb,Blk w' b 213 (liveArr 1 0 (some mb) size)/\MapKV Value.string w' mb L/\(m=some mb∨(L=[]/\w.heap.size<=mb))/\w.grownBy w' (some b)
theorem Zsu(hp:w.cell? ⟨pl,0,none⟩=some (P_ (some ⟨b,0,none⟩)))(hb:Blk w b 213 (liveArr d 0 m size))
  (h:(d=0/\m=none/\L=[])∨(d=1/\∃mb,m=some mb/\MapKV Value.string w mb L)) :
  Calls prog 162 #[P_ (some ⟨b,0,none⟩),.func (.func 163) #[] #[P_ (some ⟨pl,0,none⟩)]] w (ZuQ b m size L w):=by
 rcases h with ⟨rfl,rfl,rfl⟩|⟨rfl,mb,rfl,hm⟩
 ·refine(Zpw hp hb).mono ?_;rintro _ w' ⟨rfl,mb,h1,h2,h3,h4⟩;exact⟨rfl,mb,h1,⟨#[],0,h2,stamped_empty 0,rfl⟩,.inr ⟨rfl,h3⟩,h4⟩
 ·refine(Zpv hb _).mono ?_;rintro _ w' ⟨rfl,rfl⟩;exact⟨rfl,mb,hb,hm,.inl rfl,⟨rfl,rfl,rfl,ZL _,λ_ _ _=>rfl⟩⟩
def applyN(K:List (ByteArray×List Ev))(e:Ev):List (ByteArray×List Ev) :=
 if (Z1 ((Zar K e.key).getD []) e).length=0 then ZcZ K e.key else Zc6 K e.key (Z1 ((Zar K e.key).getD []) e)
end
section
open Go.RowKit Go.MapKept
theorem Zuk(w:World):(zeroValue 128).run prog w=.ok (S_ none 0 0) w:=Tryz.zeroValue128 w
theorem Zlf{mb:Nat}(h:MapKV Value.string w mb L)(k:ByteArray):(Instr.lookup 197 (.map (some mb)) (T_ k) false).run prog w=.ok ((Zar L k).getD (S_ none 0 0)) w:=by
 rw[←ZtQ];exact(Zhx Zks underlying197 underlying9 _ Zuk h k).2
theorem Zj9{sz mb:Nat}{e:TypeId}{xs:List Value}(h:w.ownsRow B e sz v n xs)(hm:MapKV Value.string w mb L):∀g,v.ownBlock=some g->g≠mb:=by
 intro g hg he;obtain⟨es,clk,jp,_⟩:=hm;rcases h.2 with ⟨h0,_⟩|⟨g1,c1,FB,h1,_,cz,_⟩
 ·rw[h0]at hg;cases hg
 ·rw[h1]at hg;injection hg with hg;have ll:g1=g:=hg;rw[ll,he]at cz;rw[jp]at cz
  cases cz
theorem ZjS{own:Own}(h:LiveAt own t w p K)(hf:Fresh own w)(e:Ev)(he:e.Ok)(hk:∀l,Zar K e.key=some l->l.length<=100000/\∀x∈l,x.r<5):
  Calls prog 118 #[P_ (some ⟨p,0,none⟩),Zaj e] w λr w'=>r=R_ (I_ J_ 0)/\∃own',LiveAt own' t w' p (applyN K e)/\Upd (· = t) own own' w w':=by
 obtain⟨fY,d,m,size,T,hb,hT,lA,hd⟩:=h;have cP:=ZbT w (C_ #[P_ (some ⟨p,0,none⟩)] 129) (C_ (evArr e) 89);obtain⟨HP,HE,df⟩:=ZH3 ((ZBn w 129 #[P_ (some ⟨p,0,none⟩)]).alloc (C_ (evArr e) 89)) (Zag w (C_ #[P_ (some ⟨p,0,none⟩)] 129) 89 (evArr e)) (hb.ob cP);have OX:=hb.lt;obtain⟨tQ,HB,eh,HR,HD,HM,HF,HT,nX⟩:=ZH9 (λW=>Ze5 e W he) hb cP lA hd fY hf hT hk;clear hb cP lA hd fY hf hT hk;go_enter func118,ntmps118;go_wp2_with fail;refine(tQ.out _).mono ?_;rintro _ w1 ⟨rfl,cz⟩;have Ka:=HP.out.ob cz;have TQ:=ZH (HE.out.ob cz);have dm:=df.out.ob cz;have fQ:=eh.out.trans (cz.mono eh.out.size);have q0:=Ka.cell 0;have OD:=Ka.lt;simp only[ZD,ZE]at q0
 have CH:=Zsu q0 dm (L:=keptVals T) (by
  rcases HD.out with ⟨h1,h2,h3⟩|⟨h1,mb,h2,_,h3⟩
  ·exact .inl ⟨h1,h2,by rw[h3];rfl⟩
  ·exact .inr ⟨h1,mb,h2,h3.below fQ⟩)
 obtain⟨Ml,lZ,dj,wR⟩:=ZH4 CH Ka dm fQ;clear Ka dm fQ CH cz;have VY:∀(fn:Fn) (first cap:Array Value) (w:World),(Instr.makeFunc fn first cap).run prog w=.ok (.func fn first cap) w:=λ_ _ _ _=>rfl
 go_wp2_with fail;refine Ml.out.mono ?_;rintro _ w2 ⟨rfl,mb,dx,NO,mL,eQ⟩;have sJ:w.heap.size≠p:=ZO;have Rj:Blk w2 w.heap.size 129 #[P_ (some ⟨p,0,none⟩)]:=lZ.out.grown eQ (by intro h;injection h with h;omega);have zq:Blk w2 (w.heap.size+1) 89 (evArr e):=TQ.out.grown eQ (by intro h;injection h with h;omega);have cM:∃cK,Upd (· = t) own cK w w2/\cK mb=t/\KeptRows cK t w2 T/\cK p=t:=by
  have cN:Upd (· = t) own own w w2:=(ZUb wR.out HF.out).aJ eQ (λ_=>HM.out);have dV:KeptRows own t w2 T:=⟨λx hx=>⟨Zi (Ze (HR.out.row x hx).row wR.out) (λg hg hl=>eQ.block g hl (λhe=>Zr (Ze (HR.out.row x hx).row wR.out) dj.out ZJ (by rw[hg,he]))),(HR.out.row x hx).own⟩,HR.out.apart⟩;rcases mL with mL|⟨mL,VX⟩
  ·rcases HD.out with ⟨_,h2,_⟩|⟨_,mb',h2,h3,_⟩
   ·rw[h2]at mL;cases mL
   ·rw[h2]at mL;injection mL with mL;subst mL;exact⟨own,cN,h3,dV,HM.out⟩
  ·have Ke:T=[]:=by
    have:=congrArg List.length mL;simp only[keptVals,List.length_map,List.length_nil]at this;exact List.length_eq_zero_iff.1 this
   have CC:w.heap.size<=mb:=ZT wR.out.size VX;refine⟨own.at_ mb t,cN.az CC NO.lt t,by simp[Own.at_],by rw[Ke];exact⟨λp hp=>by simp at hp,λi j p q hi=>by simp at hi⟩,?_⟩;unfold Own.at_;rw[ZPn ZO];exact HM.out
 obtain⟨cK,cM,jP,dV,oE⟩:=cM;obtain⟨wP,qw,tf,oL,dC,Ux,fP,A3⟩:=ZH8 dx NO Rj zq cM jP dV oE;clear dx NO Rj zq cM jP dV mL eQ oE q0 OD;go_wp2_with fail;refine ZSi [(0,0),(1,0),(2,3),(3,0),(4,3),(5,0),(6,0),(7,3)] λcu=>?_
 repeat((first|refine ZSa ?_|refine ZSb ?_|(refine Zf rfl (by rfl) (λw' cL=>by(obtain⟨k0,k1,k2,k3,k4⟩:=ZcX (wP.out.ob cL.below));(have q0:=(tf.out.ob cL.below).cell 0);(simp only[ZD,ZE]at q0);(obtain⟨x0,x1,x2,x3,x4,x5,x6,x7,x8,x9,fh,fi⟩:=(oL.out.ob cL.below).ag);(have kQ:=Zlf (qw.out.below cL.below) e.key);go_simp;with_reducible rfl) ?_));simp only[Act.put,Q_])
 refine ZSf ?_;obtain⟨vb,wG⟩:∃vb,vb=(Zar (keptVals T) e.key).getD (S_ none 0 0):=⟨_,rfl⟩;obtain⟨lb,oU⟩:∃lb,lb=(Zar K e.key).getD []:=⟨_,rfl⟩;rw[←wG];have uU:Zar (keptVals T) e.key=(Zar T e.key).map (·.2):=ZgZ (λx:List Ev×Value=>x.2) T e.key;have sB:Zar K e.key=(Zar T e.key).map (·.1):=by rw[←HT.out];exact ZgZ (λx:List Ev×Value=>x.1) T e.key
 have xU:w2.ownsRow 0 89 12 vb lb.length (evCells lb)/\(∀g,vb.ownBlock=some g->cK g=t/\g<w.heap.size)/\lb.length<=100000/\(∀x∈lb,x.r<5)/\(∀(j:Nat) (q:ByteArray×(List Ev×Value)),T[j]? = some q->atK T e.key≠some j->Apart q.2.2 vb):=by
  cases iy:atK T e.key with
  |none =>
   have hn:=ZrO iy;rw[hn]at uU sB;have e1:vb=S_ none 0 0:=by rw[wG,uU];rfl
   have e2:lb=[]:=by rw[oU,sB];rfl
   rw[e1,e2];exact⟨⟨rfl,.inl ⟨rfl,rfl⟩⟩,(λg h=>by cases h),ZM,(λx h=>by simp at h),λj q _ _=>(ZhG _ _ _).symm⟩
  |some i0 =>
   obtain⟨x,hx,nB,cI⟩:=Zme iy;rw[nB]at uU sB;have e1:vb=x.2:=by rw[wG,uU];rfl
   have e2:lb=x.1:=by rw[oU,sB];rfl
   have hk:=nX.out x.1 sB;have hr:=fP.out.row _ (ZY hx);rw[e1,e2];exact⟨hr.row,(λg hg=>⟨hr.own g hg,(Zb (HR.out.row _ (ZY hx)).row hg).2⟩),hk.1,hk.2,λj q hj dR=>fP.out.apart j i0 q _ hj hx (λh=>dR (by rw[h]))⟩
 obtain⟨cT,dk,hlen,eO,mZ⟩:=xU;obtain⟨DJ,xB,rfl,_⟩:=EvSl.ae cT;have Gi:applyN K e=if (Z1 lb e).length=0 then ZcZ K e.key else Zc6 K e.key (Z1 lb e):=by unfold applyN;rw[←oU]
 obtain⟨UP,jH,xn,nU,P0⟩:=ZH5 (Zta e (Ze cT ((ZW w2.heap.size w2).drew)) hlen eO) cT dk mZ Gi;clear uU sB wG oU cT dk eO mZ Gi cu;obtain⟨x0,x1,x2,x3,x4,x5,x6,x7,x8,x9,fh,fi⟩:=oL.out.drew.ag;have ko:=oL.out.drew.lt;go_wp2_with fail;refine UP.out.mono ?_;clear x0 x1 x2 x3 x4 x5 x6 x7 x8 x9 fh fi ko;rintro _ w4 ⟨v4,rfl,cJ,dL,jK⟩;have mF:w2.grownBy w4 (Value.slice DJ lb.length xB).ownBlock:=(Zfj w2 _).trans dL;obtain⟨a4,ja,rfl,_⟩:=EvSl.ae cJ;have jB:=Zdk wP.out jH.out ZJ mF;have zt:=Zdk tf.out jH.out ZJ mF
 have pn:Blk w4 (w.heap.size+1) 89 (evArr e):=oL.out.grown mF (λh=>by
  have h1:=(xn.out _ h.symm).2
  omega)
 have Rb:MapKV Value.string w4 mb (keptVals T):=qw.out.of_same (mF.block mb qw.out.lt (λh=>by
  obtain⟨es,clk,jp,_⟩:=qw.out;rcases jH.out.2 with ⟨h0,_⟩|⟨g1,c1,FB,h1,_,cz,_⟩
  ·rw[h0]at h;cases h
  ·rw[h1]at h;injection h with h;rw[h]at jp;rw[jp]at cz
   cases cz))
 have ei:∃dX,Upd (· = t) own dX w w4/\(∀b,b<w2.heap.size->dX b=cK b)/\(∀g,(Value.slice a4 (Z1 lb e).length ja).ownBlock=some g->dX g=t):=by
  have js:w2.grownBy w4 (Value.slice DJ lb.length xB).ownBlock:=mF;rcases jK with iy|iy
  ·refine⟨cK,?_,λ_ _=>rfl,λg hg=>(xn.out g (iy▸hg)).1⟩;rcases wA:(Value.slice DJ lb.length xB).ownBlock with _|g
   ·rw[wA]at js;exact dC.out.kept ⟨js.os,js.tape,js.output,js.size,λk hk=>js.block k hk ZM⟩
   ·rw[wA]at js;refine dC.out.aJ js (λhl=>?_);rw[←dC.out.old g hl];exact(xn.out g wA).1
  ·refine⟨cK.put (S_ a4 (Z1 lb e).length ja) t,?_,λb hb=>?_,λg hg=>?_⟩
   ·have hu:Upd (· = t) own cK w w4:=by
     rcases wA:(Value.slice DJ lb.length xB).ownBlock with _|g
     ·rw[wA]at js;exact dC.out.kept ⟨js.os,js.tape,js.output,js.size,λk hk=>js.block k hk ZM⟩
     ·rw[wA]at js;refine dC.out.aJ js (λhl=>?_);rw[←dC.out.old g hl];exact(xn.out g wA).1
    exact hu.bN (λg hg=>⟨ZT dC.out.size (iy g hg),(Zb cJ hg).2⟩) t
   ·unfold Own.put;rw[ZPn (λh=>by have:w2.heap.size<=b:=iy b h;omega)]
   ·unfold Own.put;rw[ZPp hg]
 obtain⟨dX,ei,gZ,tv⟩:=ei;have zY:∀(j:Nat) (q:ByteArray×(List Ev×Value)),T[j]? = some q->atK T e.key≠some j->RowAt dX t w4 q.2.2 q.2.1/\Apart q.2.2 (S_ a4 (Z1 lb e).length ja):=by
  intro j q hj dR;have Kr:=fP.out.row q (ZY hj);have Gj:=nU.out j q hj dR;refine⟨⟨ZaK Kr.row mF Gj,λg hg=>by rw[gZ g (Zb Kr.row hg).2];exact Kr.own g hg⟩,λg hg ll=>?_⟩;rcases jK with iy|iy
  ·exact Gj g hg (iy▸ll)
  ·have h1:w2.heap.size<=g:=iy g ll;have:=(Zb Kr.row hg).2;omega
 have ld:Hid (RowAt dX t w4 (S_ a4 (Z1 lb e).length ja) (Z1 lb e)):=ZH (⟨cJ,tv⟩);have If:p<w2.heap.size:=wP.out.lt;have Hj:=qw.out.lt;obtain⟨EU,xm⟩:=ZH2 ((gZ p If).trans A3.out) ((gZ mb Hj).trans Ux.out)
 have Mq:Hid (p≠mb):=ZH (λh=>by
  obtain⟨es,clk,jp,_⟩:=qw.out;have:=wP.out;unfold Blk at this;rw[h,jp]at this
  cases this)
 obtain⟨gy,tV,wY,Ul,gj,tT⟩:=ZH6 jB zt pn Rb ei zY;have q0:=zt.cell 0;simp only[ZD,ZE]at q0;have OD:=zt.lt;clear jB zt pn Rb ei zY gZ tv cJ dL mF jK If Hj;go_wp2_with fail;refine(Zts gy.out _).mono ?_;rintro _ w5 ⟨⟨v5,rfl⟩,Ao⟩;have qd:Blk w5 p 213 (liveArr 1 0 (some mb) (wrap64 (size+wrap64 (((Z1 lb e).length:Int)-(lb.length:Int))))):=by
  rw[Ao];first|exact gy.out.aj 4 _|(simp only[IntKind.wrap_i64];exact gy.out.aj 4 _)
 have Kb:Blk w5 w.heap.size 129 #[P_ (some ⟨p,0,none⟩)]:=by rw[Ao];exact tV.out.far sJ _
 have qJ:Blk w5 (w.heap.size+1) 89 (evArr e):=by rw[Ao];exact wY.out.far (p:=⟨p,4,none⟩) (by show w.heap.size+1≠p;omega) _
 have Rc:MapKV Value.string w5 mb (keptVals T):=by rw[Ao];exact Ul.out.of_same (Below.heap_setCell _ _ _ _ (λh=>Mq.out h.symm))
 have pS:∀v es,RowAt dX t w4 v es->RowAt dX t w5 v es:=λv es hr=>⟨by rw[Ao];exact ZcO hr.row gy.out ZJ,hr.own⟩
 have iD:Upd (· = t) own dX w w5:=by rw[Ao];exact gj.out.setCell (p:=⟨p,4,none⟩) (λ_=>HM.out) _
 obtain⟨lX,Qv,Ey,Du,xt,ka⟩:=ZH6 qd Kb qJ Rc pS iD;clear qd Kb qJ Rc pS iD Ao q0 OD;by_cases h0:(Z1 lb e).length=0
 ·have hz:(((Z1 lb e).length:Int)==0)=true:=by simp[h0]
  have dc:(Z1 lb e).isEmpty=true:=by rw[List.isEmpty_iff,←List.length_eq_zero_iff];exact h0
  have HC:=ZH h0;clear h0;go_wp2_with fail;refine ZSi [(0,0),(1,0),(2,3),(3,0),(4,3),(5,0),(6,2)] λcu=>?_
  repeat((first|refine ZSa ?_|refine ZSb ?_|(refine Zf rfl (by rfl) (λw' cL=>by(obtain⟨k0,k1,k2,k3,k4⟩:=ZcX (lX.out.ob cL.below));(have q0:=(Qv.out.ob cL.below).cell 0);(simp only[ZD,ZE]at q0);(obtain⟨x0,x1,x2,x3,x4,x5,x6,x7,x8,x9,fh,fi⟩:=(Ey.out.ob cL.below).ag);go_simp;with_reducible rfl) ?_));simp only[Act.put,Q_])
  obtain⟨w6,eV,yk,nP⟩:=Zl1 Zks underlying197 underlying9 (Du.out.below ((ZW w5.heap.size w5).drew)) e.key 0;refine ZSe λK hK=>?_
  go_simp;refine hK.out _ _ ?_;clear hK K;refine ZSf ?_;have rD:w5.grownBy w6 (some mb):=(Zfj w5 _).trans nP;obtain⟨LU,xd⟩:=ZH2 yk rD;clear yk eV nP rD cu;go_wp2
  go_ret;have rG:∀v es,RowAt dX t w5 v es->RowAt dX t w6 v es:=λv es hr=>⟨Zi hr.row (λg hg hl=>xd.out.block g hl (λh=>by injection h with h;exact Zj9 hr.row Du.out g hg h)),hr.own⟩
  refine⟨rfl,dX,⟨EU.out,1,some mb,_,_,lX.out.grown xd.out (by intro h;injection h with h;exact Mq.out h),?_,fP.out.del (λj q hj dR=>rG _ _ (xt.out _ _ (tT.out j q hj dR).1)),.inr ⟨rfl,mb,rfl,xm.out,?_⟩⟩,ka.out.aJ xd.out (λhl=>?_)⟩
  ·rw[P0.out,ZPp HC.out,←HT.out];exact(Zmu (λx:List Ev×Value=>x.1) T e.key).symm
  ·have:=LU.out;rw[ZtB]at this;unfold keptVals at this ⊢;rw[Zmu (λx:List Ev×Value=>x.2)]at this;exact this
  ·rw[←ka.out.old mb hl];exact xm.out
 ·have hz:(((Z1 lb e).length:Int)==0)=false:=by rw[beq_eq_false_iff_ne];omega
  have HC:=ZH h0;clear h0;go_wp2_with fail;refine ZSi [(0,0),(1,0),(2,3),(3,0),(4,3),(5,0),(6,3),(7,2)] λcu=>?_
  repeat((first|refine ZSa ?_|refine ZSb ?_|(refine Zf rfl (by rfl) (λw' cL=>by(obtain⟨k0,k1,k2,k3,k4⟩:=ZcX (lX.out.ob cL.below));(have q0:=(Qv.out.ob cL.below).cell 0);(simp only[ZD,ZE]at q0);(obtain⟨x0,x1,x2,x3,x4,x5,x6,x7,x8,x9,fh,fi⟩:=(Ey.out.ob cL.below).ag);go_simp;with_reducible rfl) ?_));simp only[Act.put,Q_])
  obtain⟨w6,eV,yk,nP⟩:=ZcP Zks underlying197 underlying9 (Du.out.below ((ZW w5.heap.size w5).drew)) e.key (S_ a4 (Z1 lb e).length ja);refine ZSe λK hK=>?_
  go_simp;refine hK.out _ _ ?_;clear hK K;refine ZSf ?_;have rD:w5.grownBy w6 (some mb):=(Zfj w5 _).trans nP;obtain⟨LU,xd⟩:=ZH2 yk rD;clear yk eV nP rD cu;go_wp2
  go_ret;have rG:∀v es,RowAt dX t w5 v es->RowAt dX t w6 v es:=λv es hr=>⟨Zi hr.row (λg hg hl=>xd.out.block g hl (λh=>by injection h with h;exact Zj9 hr.row Du.out g hg h)),hr.own⟩
  refine⟨rfl,dX,⟨EU.out,1,some mb,_,_,lX.out.grown xd.out (by intro h;injection h with h;exact Mq.out h),?_,fP.out.put (rG _ _ (xt.out _ _ ld.out)) (λj q hj dR=>⟨rG _ _ (xt.out _ _ (tT.out j q hj dR).1),(tT.out j q hj dR).2⟩),.inr ⟨rfl,mb,rfl,xm.out,?_⟩⟩,ka.out.aJ xd.out (λhl=>?_)⟩
  ·rw[P0.out,ZPn HC.out,←HT.out];exact(Zm3 (λx:List Ev×Value=>x.1) T e.key (Z1 lb e,Value.slice a4 (Z1 lb e).length ja)).symm
  ·have:=LU.out;rw[Zt9]at this;unfold keptVals at this ⊢;rw[Zm3 (λx:List Ev×Value=>x.2) T e.key (Z1 lb e,Value.slice a4 (Z1 lb e).length ja)]at this;exact this
  ·rw[←ka.out.old mb hl];exact xm.out
end
section
open Go.RowKit Go.Sort Go.Shelf Go.Maps
theorem Zsg(mb:Option Nat)(W:World):Calls prog 112 #[.map mb] W λe w'=>e=R_ (.func (.func 153) #[] #[P_ (some ⟨W.heap.size,0,none⟩)])/\w'=W.alloc (C_ #[.map mb] 197) :=
 (callsIn_wide (n:=5)).1 (AnyZ.keys_in Tryz.keys112 Fence.wide 5 trivial rfl mb W)
theorem ZpV(hg:W.cell? ⟨g,0,none⟩=some (.map none))(ez:g<W.heap.size):
  Calls prog 111 #[.func (.func 153) #[] #[P_ (some ⟨g,0,none⟩)]] W λr w'=>r=R_ (S_ none 0 0)/\L_ W w':=by
 have CM:SeqGives Fence.wide 2 prog 153 #[P_ (some ⟨g,0,none⟩)] encStr (λss:List (List UInt8)=>ss=[]) 0 W :=
  AnyZ.keys_gives_nil (ρ := Tryz.keys112_ren) { Tryz.keys112 with } Fence.wide _ trivial rfl g _ ez hg
 have ra:∀m,AnyZ.SortsIn prog Tryz.sorted111_ren Fence.wide m:=λm =>
  ⟨λblk off cap ss W hH cH dS=>callsIn_wide.2 (AnyM.slices_Sort_string Tryz.sort152 blk off cap ss W hH cH dS),
   λp cap W=>callsIn_wide.2 (AnyM.slices_Sort_string_none Tryz.sort152 p cap W)⟩
 have hc:=AnyZ.sorted_in Tryz.sorted111 Fence.wide 5 trivial trivial trivial trivial rfl ZO (ra _) (enters_of func152 ZK rfl) 153 #[P_ (some ⟨g,0,none⟩)] trivial (enters_of func153 ZK rfl) _ 0 (Nat.zero_le _) ZO _ CM;refine((callsIn_wide (n:=5)).1 hc).mono ?_;rintro r w' ⟨v,ss,rfl,hS,_,OU,cD⟩;exact⟨by rw[OU.2 hS],cD⟩
def listN(K:List (ByteArray×List Ev)):List Con:=(ZaZ (K.map (·.1))).flatMap λk=>ZcQ ((Zar K k).getD [])
theorem ZpU(h:(m=none/\L=[])∨∃mb,m=some mb/\MapKV Value.string W mb L)(hl:L.length<=1000000)(hk:∀p∈L,p.1.size<=1000000)(hg:W.cell? ⟨g,0,none⟩=some (.map m))(ez:g<W.heap.size):
  Calls prog 111 #[.func (.func 153) #[] #[P_ (some ⟨g,0,none⟩)]] W λr w'=>∃v,r=R_ v/\w'.ownsRow W.heap.size 9 1 v (ZaZ (L.map (·.1))).length ((ZaZ (L.map (·.1))).map Value.string)/\L_ W w':=by
 rcases h with ⟨rfl,rfl⟩|⟨mb,rfl,hm⟩
 ·refine(ZpV hg ez).mono ?_;rintro _ w' ⟨rfl,hb⟩;exact⟨_,rfl,⟨by simp[ZaZ],.inl ⟨rfl,by simp[ZaZ]⟩⟩,hb⟩
 ·exact Zn1 (w:=W) hm hl hk hg ez (ZL _)
theorem Zmo{ps:List (Con×Value×Value)}(h:ConRows B w v ps):∀u∈conCells ps,u.oneCell'=true:=by
 intro u hu;simp only[conCells,List.mem_flatMap]at hu;obtain⟨p,hp,hu⟩:=hu;exact ZjD (h.s0 p hp) (h.s1 p hp) u hu
theorem ZgL(l:List Ev):(ZcQ l).length<=l.length:=by
 unfold ZcQ;rw[List.length_map];exact Zpe l
theorem Zg0{β : Type}{T:List (ByteArray × β)}{k:ByteArray}{x : β}(h:Zar T k=some x):(k,x)∈T:=by
 unfold Zar at h
 cases hf:T.find? (λp=>decide (p.1=k)) with
 |none=>rw[hf]at h;cases h
 |some p =>
  rw[hf]at h;injection h with h;have h1:=List.find?_some hf;have h2:=List.mem_of_find?_eq_some hf;have h3:p.1=k:=by simpa using h1
  rw[←h,←h3];exact h2
theorem Zgs{α β : Type}(f : α -> List β)(m:Nat):∀l:List α,(∀x∈l,(f x).length<=m)->(l.flatMap f).length<=l.length*m
 | [],_=>ZM
 |x::l,h=>by
  have h1:=h x ZM;have h2:=Zgs f m l (λy hy=>h y (by simp[hy]));simp only[List.flatMap_cons,ZI,List.length_cons,Nat.succ_mul];omega
theorem Zle{own:Own}(h:LiveAt own t w p K)(hK:K.length<=1000)(hb:∀x∈K,x.1.size<=1000000/\x.2.length<=100/\∀e∈x.2,e.r<5):
  Calls prog 63 #[P_ (some ⟨p,0,none⟩)] w (ZgH (listN K) w):=by
 obtain⟨_,d,m,size,T,cH,hT,lA,hd⟩:=h;have oQ:(m=none/\keptVals T=[])∨∃mb,m=some mb/\MapKV Value.string w mb (keptVals T):=by
  rcases hd with ⟨_,h2,h3⟩|⟨_,mb,h2,_,h3⟩
  ·exact .inl ⟨h2,by rw[h3];rfl⟩
  ·exact .inr ⟨mb,h2,h3⟩
 obtain⟨k0,k1,k2,k3,k4⟩:=ZcX cH;have cI:=cH.lt;obtain⟨s2,PJ,PF,PG,PI⟩:=info_parts ZqL;have hlen:T.length=K.length:=by rw[←hT];simp[keptEvs]
 have rH:(keptVals T).map (·.1)=K.map (·.1):=by rw[←hT];simp[keptVals,keptEvs]
 obtain⟨HB,HT,HR,HD,nX,gR,LH⟩:=ZH7 cH hT lA oQ hb hlen rH;clear cH hT lA hd oQ hb hlen rH;go_enter func63,ntmps63;go_wp2_with fail;refine(Zsg m w).mono ?_;rintro _ w1 ⟨rfl,rfl⟩;have fW:=(ZW w.heap.size w).alloc (ZL _) (C_ #[.map m] 197)
 have Pi:=ZpU (W:=w.alloc (C_ #[.map m] 197)) (m:=m) (g:=w.heap.size) (L:=keptVals T) (by
  rcases HD.out with h|⟨mb,h1,h2⟩
  ·exact .inl h
  ·exact .inr ⟨mb,h1,h2.below fW⟩) (by simp only[keptVals,List.length_map];have:=gR.out;omega) (λq hq=>by
  simp only[keptVals,List.mem_map]at hq;obtain⟨x,hx,rfl⟩:=hq
  exact(nX.out (x.1,x.2.1) (by rw[←HT.out];exact List.mem_map.2 ⟨x,hx,rfl⟩)).1) ((ZBn w 197 #[.map m]).cell 0) ZM
 rw[LH.out]at Pi;obtain⟨xx,lc⟩:=ZH2 Pi fW;clear Pi fW;go_wp2_with fail;refine xx.out.mono ?_;rintro _ w2 ⟨v2,rfl,dV,cD⟩;obtain⟨a2,c2,rfl⟩:=Zl dV;obtain⟨ks,rI⟩:∃ks,ks=ZaZ (K.map (·.1)):=⟨_,rfl⟩;have lu:ks.length<=1000:=by rw[rI,ZcC,List.length_map];exact hK
 have zQ:listN K=ks.flatMap λk=>ZcQ ((Zar K k).getD []):=by rw[rI];rfl
 rw[←rI]at dV ⊢;obtain⟨df,fP,LO⟩:=ZH3 (lc.out.trans (cD.mono lc.out.size)) dV zQ;clear rI dV cD zQ k0 k1 k2 k3 k4;go_wp2_with fail;go_loopw [3,13] (λv i wr=>∃(q:Nat) (ps:List (Con×Value×Value)),q<=ks.length/\i=I_ J_ q/\Hid (ps.map (·.1)=(ks.take q).flatMap λk=>ZcQ ((Zar K k).getD []))/\Hid (ConRows w2.heap.size wr v ps)/\Hid (Kept w2.heap.size w2 wr)) (λ_ i _=>ks.length-(intOf i).toNat)
 case atStart=>exact⟨0,[],Nat.zero_le _,rfl,ZH rfl,ZH (ConRows.nil _ _),ZH (ZKr w2)⟩
 case round =>
  obtain⟨q,ps,hq,rfl,iS,HC,r9⟩:=hrel;obtain⟨a8,c8,rfl⟩:=Zl HC.out.row;have fQ:=df.out.trans (r9.out.below.mono df.out.size);by_cases du:q<ks.length
  ·obtain⟨k,hk⟩:∃k,ks[q]? = some k:=⟨_,ZX du⟩;obtain⟨g,hg,ez,cB⟩:=Zbm fP.out ZO;have eD:=cB q (by simp;exact du);rw[List.getElem?_map,hk,Option.map_some,←r9.out.cells g q ez]at eD;subst hg;have Oo:g<wr.heap.size:=ZR ez r9.out.le;have Sk:(0:Int)<=(q:Int):=ZO;obtain⟨lb,oU⟩:∃lb,lb=(Zar K k).getD []:=⟨_,rfl⟩;have uU:Zar (keptVals T) k=(Zar T k).map (·.2):=ZgZ (λx:List Ev×Value=>x.2) T k;have sB:Zar K k=(Zar T k).map (·.1):=by rw[←HT.out];exact ZgZ (λx:List Ev×Value=>x.1) T k
   obtain⟨vb,wG⟩:∃vb,vb=(Zar (keptVals T) k).getD (S_ none 0 0):=⟨_,rfl⟩;have cW:w.ownsRow 0 89 12 vb lb.length (evCells lb)/\lb.length<=100/\∀e∈lb,e.r<5:=by
    cases nB:Zar T k with
    |none =>
     rw[nB]at uU sB;rw[wG,oU,uU,sB];exact⟨⟨rfl,.inl ⟨rfl,rfl⟩⟩,ZM,λe he=>by simp at he⟩
    |some x =>
     rw[nB]at uU sB;rw[wG,oU,uU,sB];have hx:=nX.out (k,x.1) (Zg0 sB);exact⟨(HR.out.row (k,x) (Zg0 nB)).row,hx.2⟩
   obtain⟨DJ,U3,rfl,eW⟩:=EvSl.ae cW.1;have Uw:=ZH (Ztu (eW.below fQ) cW.2.1 cW.2.2);have hB:=HB.out.ob fQ;obtain⟨k0,k1,k2,k3,k4⟩:=ZcX hB;have D1:=hB.lt;have kQ:(Instr.lookup 197 (.map m) (T_ k) false).run prog wr=.ok (S_ DJ lb.length U3) wr:=by
    rcases HD.out with ⟨h1,h2⟩|⟨mb,h1,h2⟩
    ·rw[h1,wG,h2];simp[Instr.lookup,Sem.run_bind,run_underlying (w:=wr) underlying197,go_sem];rfl
    ·rw[h1,wG];exact Zlf (h2.below fQ) k
   have gx:ps.length<=q*100:=by
    have:=congrArg List.length iS.out;rw[List.length_map]at this;rw[this];refine ZT (Zgs _ 100 _ (λx _=>?_)) (by rw[ZV];exact Nat.mul_le_mul_right _ (Nat.min_le_left _ _));refine ZT (ZgL _) ?_
    cases nB:Zar K x with
    |none=>simp
    |some y=>exact(nX.out (x,y) (Zg0 nB)).2.1
   have fM:((ks.take (q+1)).flatMap λk=>ZcQ ((Zar K k).getD []))=((ks.take q).flatMap λk=>ZcQ ((Zar K k).getD []))++ZcQ lb:=by
    rw[List.take_add_one,hk,oU];simp
   obtain⟨nK,Uh⟩:=ZH2 fM cW.2.1;clear hk cB fM uU sB wG oU cW eW hB;go_wp2_with fail;refine Uw.out.mono ?_;rintro _ w6 ⟨v6,qs,rfl,O9,jn,eK⟩;have O8:qs.length<=100:=by
    have:=congrArg List.length O9;rw[List.length_map]at this;rw[this];exact ZT (ZgL _) Uh.out
   obtain⟨a6,c6,rfl⟩:=Zl jn.row;obtain⟨gn,iT⟩:=ZH2 (Zmo jn) (Reads.ae jn.row);have BY:=HC.out.below eK;have tp:=r9.out.step eK;obtain⟨HQ,TJ,nd,UC⟩:=ZH4 (jn.mono r9.out.le) BY tp O9;have eE:=tp.le;have jH:=ZH BY.row;clear jn BY tp O9 eK
   go_wp2_with (first
    |(at_builtin
      refine Zc _ rfl (.tmp 17) (.tmp 24) _ rfl w2.heap.size 66 s2 _ 7 104 underlying38 PJ PF PG PI rfl ZO (S_ a8 ps.length c8) ps.length (conCells ps) rfl jH.out _ a6 qs.length c6 (conCells qs) rfl iT.out gn.out ZF ZO eE ?_;intro v7 w7 cF db _;have jn:=TJ.out.push (qs:=qs) db cF HQ.out.s0 HQ.out.s1;have nf:Hid (Kept w2.heap.size w2 w7):=ZH (⟨nd.out.below.grown db nd.out.le (λg hg=>(Zb jH.out hg).1),ZT nd.out.le db.size⟩);have vV:=ZH jn
      clear cF db jn))
   go_roundw
   case rel=>exact⟨q+1,_,ZO,ZN,ZH (by rw[nK.out,List.map_append,iS.out,UC.out]),vV,nf⟩
   case measure=>simp[intOf];omega
  ·obtain rfl:q=ks.length:=ZO;rw[List.take_length]at iS;go_wp2
   go_ret;exact⟨_,ps,rfl,by rw[iS.out,LO.out],HC.out.mono df.out.size,fQ⟩
end
theorem Zcn{k:Nat}{f:Ev->Bool}{x:Ev}(h:x∈ZaQ l e k f):x∈l:=(List.mem_filter.1 h).1
theorem ZlH{x:Ev}(h:x∈Z1 l e):x∈l∨x=e:=by
 unfold Z1 at h;split at h
 ·simpa using h
 ·split at h
  ·exact .inl (Zcn (List.mem_filter.1 h).1)
  ·split at h
   ·split at h
    ·rcases List.mem_append.1 h with h|h
     ·exact .inl (Zcn h)
     ·exact .inr (by simpa using h)
    ·exact .inl h
   ·split at h
    ·exact .inl (Zcn h)
    ·split at h
     ·rcases List.mem_append.1 h with h|h
      ·exact .inl (Zcn h)
      ·exact .inr (by simpa using h)
     ·exact .inl h
theorem ZrH(l:List Ev)(e:Ev):(Z1 l e).length<=l.length+1:=by
 have h1:=λk f=>ZbQ l e k f
 unfold Z1;split
 ·simp
 ·split
  ·exact ZT (List.length_filter_le _ _) (Nat.le_succ_of_le (h1 _ _))
  ·split
   ·split
    ·rw[ZI];exact Nat.add_le_add (h1 _ _) (ZL _)
    ·omega
   ·split
    ·exact Nat.le_succ_of_le (h1 _ _)
    ·split
     ·rw[ZI];exact Nat.add_le_add (h1 _ _) (ZL _)
     ·omega
section
variable {β : Type}{T:List (ByteArray × β)}{k:ByteArray}{v : β}
theorem ZsB{x:ByteArray × β}(h:x∈Zc6 T k v):x∈T∨x=(k,v):=by
 unfold Zc6 at h;split at h
 ·exact List.mem_or_eq_of_mem_set h
 ·simpa using h
theorem ZsA:(Zc6 T k v).length<=T.length+1:=by
 unfold Zc6;split <;> simp
theorem ZrY{x:ByteArray × β}(h:x∈ZcZ T k):x∈T:=by
 unfold ZcZ at h;split at h
 ·exact List.mem_of_mem_eraseIdx h
 ·exact h
theorem ZrX:(ZcZ T k).length<=T.length:=by
 unfold ZcZ;split
 ·exact List.length_eraseIdx_le _ _
 ·exact ZL _
end
structure BookInv(n:Nat)(K:List (ByteArray×List Ev)):Prop where
 keys:K.length<=n
 row:∀x∈K,x.1.size<=1000000/\x.2.length<=n/\∀e∈x.2,e.r<5
theorem BookInv.nil(n:Nat):BookInv n []:=⟨Nat.zero_le _,λx h=>by cases h⟩
theorem BookInv.get(h:BookInv n K)(hk:Zar K k=some l):l.length<=n/\∀x∈l,x.r<5:=(h.row _ (Zg0 hk)).2
theorem BookInv.more{m:Nat}(h:BookInv n K)(hm:n<=m):BookInv m K:=⟨ZT h.keys hm,λx hx=>⟨(h.row x hx).1,ZT (h.row x hx).2.1 hm,(h.row x hx).2.2⟩⟩
theorem BookInv.apply(h:BookInv n K)(he:e.Ok):BookInv (n+1) (applyN K e):=by
 have h1:=h.more (Nat.le_succ n);have hl:((Zar K e.key).getD []).length<=n/\∀x∈(Zar K e.key).getD [],x.r<5:=by
  cases hg:Zar K e.key with
  |none=>simp
  |some l=>exact h.get hg
 unfold applyN;split
 ·exact⟨ZT ZrX h1.keys,λx hx=>h1.row x (ZrY hx)⟩
 ·refine⟨ZT ZsA (Nat.succ_le_succ h.keys),λx hx=>?_⟩;rcases ZsB hx with hx|rfl
  ·exact h1.row x hx
  ·refine⟨?_,ZT (ZrH _ _) (Nat.succ_le_succ hl.1),λy hy=>?_⟩
   ·have:=he.edit.key.2.1;simp;omega
   ·rcases ZlH hy with hy|rfl
    ·exact hl.2 y hy
    ·exact he.r
theorem BookInv.fold:∀{n:Nat} {K:List (ByteArray×List Ev)},BookInv n K->(∀e∈l,e.Ok)->BookInv (n+l.length) (l.foldl applyN K):=by
 induction l with
 |nil=>exact λh _=>h
 |cons e l ih =>
  intro n K h he;have:=ih (h.apply (he e ZM)) (λx hx=>he x (List.mem_cons_of_mem _ hx));rw[show n+(e::l).length=n+1+l.length by simp;omega];exact this
theorem ZhV{f:Frm}(h:f.Ok)(hs:EvSl w a n cap f.events):Calls prog 140 #[Zah f (S_ a n cap)] w λr w'=>∃v,r=R_ (.tuple #[I_ J_ f.r,v,I_ J_ 0])/\w'.ownsRow w.heap.size 5 1 v (Zn f).length (cells (Zn f))/\L_ w w':=by
 have cR:=(ZKr w).alloc (C_ (Za f (S_ a n cap)) 158);obtain⟨eh,fZ,H,ed⟩:=ZH4 (ZBn w 158 (Za f (S_ a n cap))) (hs.below cR.below) h cR;clear h cR hs;go_enter func140,ntmps140;go_wp2_with fail;refine(Zf4 H.out fZ.out).mono ?_;rintro _ w1 ⟨v1,rfl,eG,cz⟩;have dm:=eh.out.ob cz;obtain⟨c0,c1,c2,c3,c4,c5,c6,c7,c8⟩:=dm.nine;have cI:=dm.lt;obtain⟨fO,da⟩:=ZH2 eG (ed.out.step cz);clear dm eG cz;go_wp2_with fail;go_ret3
 exact⟨v1,rfl,Zj fO.out ed.out.le,da.out.below⟩
theorem Ze7{own:Own}{most:Nat}{told:List Clk}(h:PostAt own t w p most sh told)(hf:Fresh own w)(hN:sh.length<=5)(hk:∀s∈sh,s.kept.length<=1000000/\s.base<=1000000):
  Calls prog 98 #[P_ (some ⟨p,0,none⟩)] w (Zx (Zbw true (Zdw sh) (lenOf sh) (Zbp told)) w):=by
 obtain⟨B,hB⟩:∃B,B=Zdw sh:=⟨_,rfl⟩;obtain⟨L,hL⟩:∃L,L=lenOf sh:=⟨_,rfl⟩;rw[←hB,←hL];obtain⟨gb,H,HF,HK,HB,HL⟩:=ZH6 (h.len) h hf hk hB hL;clear h hf hk hB hL;go_enter func98,ntmps98;go_wp2_with fail;have hz:=ZBn w 56 (Zt false ZCz ZCz (List.replicate 5 ZCz));have cR:=(ZKr w).alloc (C_ (Zt false ZCz ZCz (List.replicate 5 ZCz)) 56);have yq:=H.out.upd (ZUb (T:=λ_=>False) cR.below HF.out) (λi _ h=>h);have rA:=(ZUb (T:=λ_=>False) cR.below HF.out).fresh;refine(Zlq yq rA hN _ (.inr rfl) (λs=>s.base) (λq s w tt hs h=>ZpO h)).mono ?_;rintro _ w1 ⟨rfl,cz⟩;rw[show Zcl (λs=>s.base) sh sh.length=B from HB.out.symm];obtain⟨da,lK⟩:=ZH2 (cR.step cz) (hz.ob cz);clear hz cR yq rA cz;go_wp2_with fail;have kS:=H.out.upd (ZUb (T:=λ_=>False) da.out.below HF.out) (λi _ h=>h);have DX:=(ZUb (T:=λ_=>False) da.out.below HF.out).fresh;refine(Zlq kS DX hN _ (.inl rfl) (λs=>s.base+s.kept.length) (λq s w tt hs h=>ZdI h (HK.out s hs).2 (HK.out s hs).1)).mono ?_;rintro _ w2 ⟨rfl,cD⟩;rw[show Zcl (λs=>s.base+s.kept.length) sh sh.length=L from HL.out.symm];obtain⟨cO,si⟩:=ZH2 (da.out.step cD) (lK.out.ob cD);clear kS DX cD
 go_wp2_with (first
  |(refine Zat rfl 56 _ rfl (Zt true B L (List.replicate 5 ZCz)) ?hf ?_
    case hf =>
     simp only[List.map_toArray,List.map_cons,List.map_nil]
     exact Zqc _ _ _ _ _ _ _ _ _ _)
  |(refine ZS rfl 56 rfl (Zt false ZCz ZCz (List.replicate 5 ZCz)) ZK ?_)
  |(refine wpList_store_row rfl 56 (.tmp 3) (.tmp 8) rfl w2.heap.size (Zt true B L (List.replicate 5 ZCz)) rfl rfl 56 (Zt false ZCz ZCz (List.replicate 5 ZCz)) (ZBn _ _ _) ZK (by simp only[Zcs,List.length_replicate]) (Zdy _ _ _ _) ?_
    obtain⟨W3,oc⟩:∃W3,W3=(w2.alloc (C_ (Zt false ZCz ZCz (List.replicate 5 ZCz)) 56)).setRow w2.heap.size (Zt true B L (List.replicate 5 ZCz)):=⟨_,rfl⟩;rw[←oc];have pi:=ZH oc
    clear oc))
 simp only[Act.put,Q_];have qk:Blk W3 w2.heap.size 56 (Zt true B L (List.replicate 5 ZCz)):=by
  rw[pi.out];exact(ZBn _ _ _).row _
 have dr:K_ w W3:=by
  rw[pi.out];exact(cO.out.alloc _).row cO.out.le _
 have yK:Blk W3 w.heap.size 56 (Zt false ZCz ZCz (List.replicate 5 ZCz)):=by
  rw[pi.out];exact(si.out.alloc _).aU (by have:=si.out.lt;omega) _
 have gO:=H.out.upd (ZUb (T:=λ_=>False) dr.below HF.out) (λi _ h=>h);have Kp:=H.out.bW;obtain⟨g1,g2,gs,ut,gt,cs,h3,g4,g5,h6,h7,h8,h9⟩:=gO;obtain⟨c0,c1⟩:=h3.two;have cI:=h3.lt;have ry:(Builtin.copy_ #[240,240] 3 #[S_ (some ⟨w2.heap.size,11,none⟩) 5 5,S_ (some ⟨gt,0,none⟩) sh.length sh.length]).run prog W3.drew=.ok (goInt sh.length) (setAll W3.drew w2.heap.size 11 (clkCells told)):=by
  obtain⟨i0,hi,hz⟩:∃i0,prog.info? 44=some i0/\i0.size=5:=by
   have h:=ZuA
   cases hq:prog.info? 44 with
   |none=>rw[hq]at h;simp at h
   |some i=>rw[hq]at h;exact⟨i,rfl,by simpa using h⟩
  have jp:Nat.min sh.length 5=sh.length:=Nat.min_eq_left hN;have I7:Blk W3.drew w2.heap.size 56 (Zt true B L (List.replicate 5 ZCz)):=qk.drew;have dS:(Zt true B L (List.replicate 5 ZCz)).size=36:=by rw[Zcs,List.length_replicate]
  have h:=Zd9 (P:=prog) W3.drew 240 240 3 44 i0 5 w2.heap.size 11 5 5 (some ⟨gt,0,none⟩) sh.length sh.length (clkCells told) underlying240 hi hz (by rw[ZcE,jp,gb.out]) (by rw[jp];exact Reads.aA h8.drew (by rw[ZcE,gb.out])) (λj hj=>by
   rw[ZcE,gb.out]at hj;rw[I7.cell,Array.getElem?_eq_getElem (by rw[dS];omega)]
   rfl) (λj _=>I7.frozen _) (ZhK _)
  rw[jp]at h;exact h
 obtain⟨tD,vZ,cU,UT⟩:=ZH4 ry qk dr yK;clear ry qk dr yK h3 h7 h8 h9 g1 g2 g4 g5;refine ZSi [(0,3),(1,3),(2,3),(3,0),(4,3),(5,0),(6,2)] λcu=>?_
 repeat((first|refine ZSa ?_|refine ZSb ?_|refine ZSc ?_);simp only[Act.put,Q_])
 refine ZSe λK hK=>?_
 go_simp;rw[tD.out];refine hK.out _ _ ?_;clear hK K;refine ZSf ?_;obtain⟨W4,od⟩:∃W4,W4=setAll W3.drew w2.heap.size 11 (clkCells told):=⟨_,rfl⟩;rw[←od];have vS:Blk W4 w2.heap.size 56 (Zt true B L (Zbp told)):=by
  rw[od];exact Zr8 B L (by rw[gb.out];exact hN) vZ.out.drew
 have dM:K_ w W4:=by
  rw[od];exact Zaf cU.out.drew cO.out.le 11 _
 have I8:Blk W4 w.heap.size 56 (Zt false ZCz ZCz (List.replicate 5 ZCz)):=by
  rw[od];exact(Zai (by have:=si.out.lt;omega) _ _ _).trans UT.out.drew
 obtain⟨BA,dw,Fw⟩:=ZH3 vS dM I8;clear vS dM I8 od c0 c1;have h5:(Zbp told).length=5:=Zdm (by rw[gb.out];exact hN);have H5:=ZH h5;clear h5
 go_wp2_with (first
  |(refine wpList_load_row rfl 56 (.tmp 3) rfl w2.heap.size rfl 56 (Zt true B L (Zbp told)) (0,0) _ BA.out underlying56 rfl (ZbU _ _ _ H5.out) ?_)
  |(refine wpList_store_row rfl 56 (.tmp 2) (.tmp 16) rfl w.heap.size (Zt true B L (Zbp told)) rfl rfl 56 (Zt false ZCz ZCz (List.replicate 5 ZCz)) Fw.out (ZbU _ _ _ H5.out) (by simp only[Zcs,List.length_replicate,H5.out]) (Zdy _ _ _ _) ?_))
 refine bodyPost_end (Z6 rfl rfl (run_loadVar_row _ _ _ _ _ _ _ (Fw.out.row _) underlying56 rfl (ZbU _ _ _ H5.out))) rfl ?_;exact⟨rfl,(dw.out.row (ZL _) _).below⟩
theorem Zef(n m:Nat)(h1:1<=n)(h2:n<=m)(w:World):Calls prog 103 #[I_ J_ n,I_ J_ m] w (Zx (B_ true) w):=by
 have i1:(1:Int)<=(n:Int):=ZO;have i2:(n:Int)<=(m:Int):=ZO;go_enter func103,ntmps103;go_wp2
 go_ret;exact⟨ZM,ZW _ _⟩
theorem Zmx(c:Cfg)(hc:c.Ok)(w:World):Calls prog 57 #[Zd1 c] w (Zx (B_ true) w):=by
 obtain⟨n1,n5,w1,w4,q1,q8,h1,h20,l1,l4,p1,p3⟩:=hc;obtain⟨HB,HK⟩:=ZH2 (ZBn w 23 (cfgArr c)) ((ZKr w).alloc (C_ (cfgArr c) 23));go_enter func57,ntmps57;go_wp2_with fail;refine(Zef c.n 5 n1 n5 _).mono ?_;rintro _ wa ⟨rfl,kK⟩;obtain⟨KU,Ua⟩:=ZH2 (HB.out.ob kK) (HK.out.step kK);obtain⟨c0,c1,c2,c3,c4,c5⟩:=KU.out.aR;have cI:=KU.out.lt;clear kK;go_wp2_with fail;refine(Zef c.w 4 w1 w4 _).mono ?_;rintro _ wb ⟨rfl,tk⟩;obtain⟨KV,Ub⟩:=ZH2 (KU.out.ob tk) (Ua.out.step tk);clear c0 c1 c2 c3 c4 c5 cI;obtain⟨c0,c1,c2,c3,c4,c5⟩:=KV.out.aR;have cI:=KV.out.lt;clear tk;go_wp2_with fail;refine(Zef c.q 8 q1 q8 _).mono ?_;rintro _ wc ⟨rfl,zy⟩;obtain⟨KW,Uc⟩:=ZH2 (KV.out.ob zy) (Ub.out.step zy);clear c0 c1 c2 c3 c4 c5 cI;obtain⟨c0,c1,c2,c3,c4,c5⟩:=KW.out.aR;have cI:=KW.out.lt;clear zy;go_wp2_with fail;refine(Zef c.h 20 h1 h20 _).mono ?_;rintro _ wd ⟨rfl,DT⟩;obtain⟨KX,Ud⟩:=ZH2 (KW.out.ob DT) (Uc.out.step DT);clear c0 c1 c2 c3 c4 c5 cI;obtain⟨c0,c1,c2,c3,c4,c5⟩:=KX.out.aR;have cI:=KX.out.lt;clear DT;go_wp2_with fail;refine(Zef c.l 4 l1 l4 _).mono ?_;rintro _ we ⟨rfl,om⟩;obtain⟨P3,Ue⟩:=ZH2 (KX.out.ob om) (Ud.out.step om);clear c0 c1 c2 c3 c4 c5 cI;obtain⟨c0,c1,c2,c3,c4,c5⟩:=P3.out.aR;have cI:=P3.out.lt;clear om;go_wp2_with fail;refine(Zef c.p 3 p1 p3 _).mono ?_;rintro _ wf ⟨rfl,jl⟩;have Uf:=ZH (Ue.out.step jl);clear jl c0 c1 c2 c3 c4 c5 cI;go_wp2
 go_ret;exact⟨rfl,Uf.out.below⟩
def StrSl(w:World)(a:Option Addr)(n cap:Nat)(ss:List ByteArray):Prop:=n<=cap/\ss.length=n/\(n=0∨∃b off,a=some ⟨b,off,none⟩/\b<w.heap.size/\∀i s,ss[i]? = some s->w.cell? ⟨b,off+i,none⟩=some (T_ s))
theorem StrSl.below{w w':World}{a:Option Addr}{n cap:Nat}{ss:List ByteArray}(h:StrSl w a n cap ss)(hb:L_ w w'):StrSl w' a n cap ss:=by
 refine⟨h.1,h.2.1,?_⟩;rcases h.2.2 with h0|⟨b,off,h1,h2,h3⟩
 ·exact .inl h0
 ·exact .inr ⟨b,off,h1,ZR h2 hb.size,λi s hs=>by rw[hb.cell (p:=⟨b,off+i,none⟩) h2];exact h3 i s hs⟩
theorem ZrB{a b:ByteArray}(h:¬a=b):(a.toList==b.toList)=false:=by
 rw[←beq_toListBytes];rcases hx:(a==b) with _|_
 ·rfl
 ·exact absurd ((Go.MapKept.bytes_beq a b).1 hx) h
theorem ZqK(h:StrSl w a n cap ss)(hn:n<=1000000)(s:ByteArray):
  Calls prog 150 #[S_ a n cap,T_ s] w λr w'=>∃i:Int,r=R_ (I_ J_ i)/\(0<=i↔s∈ss)/\L_ w w':=by
 obtain⟨HS,gb⟩:=ZH2 h (h.2.1);clear h;go_enter func150,ntmps150;go_wp2_with fail;go_loopw [5,8] (λ_ i wr=>∃q:Nat,q<=n/\i=I_ J_ q/\Hid (∀j x,j<q->ss[j]? = some x->x≠s)/\wr=w) (λ_ i _=>n-(intOf i).toNat)
 case atStart=>exact⟨0,ZO,rfl,ZH (λj x hj=>ZO),rfl⟩
 case round =>
  obtain⟨q,hq,rfl,HN,rfl⟩:=hrel;by_cases du:q<n
  ·obtain⟨x,hx⟩:∃x,ss[q]? = some x:=⟨_,ZX (by rw[gb.out];exact du)⟩;rcases HS.out.2.2 with h0|⟨b,off,rfl,hb,hc⟩
   ·omega
   have c0:=hc q x hx;have HX:=ZH hx;clear hx hc;by_cases KA:s=x
   ·have uQ:(s.toList==x.toList)=true:=by simp[KA]
    go_wp2
    go_ret;refine⟨q,rfl,⟨λ_=>?_,λ_=>ZO⟩,ZW _ _⟩;rw[KA];exact ZY HX.out
   ·have uQ:(s.toList==x.toList)=false:=ZrB KA;go_wp2
    go_roundw
    case rel=>exact⟨q+1,ZO,ZN,ZH (λj y hj hy=>by
     rcases Nat.lt_or_ge j q with h|h
     ·exact HN.out j y h hy
     ·obtain rfl:j=q:=ZO;rw[HX.out]at hy;injection hy with hy;rw[←hy]
      exact λe=>KA e.symm),by first|rfl|trivial⟩
    case measure=>simp[intOf];omega
  ·obtain rfl:q=n:=ZO;go_wp2
   go_ret;refine⟨-1,rfl,⟨λh=>ZO,λh=>?_⟩,ZW _ _⟩;obtain⟨j,hj,he⟩:=List.getElem_of_mem h;exact absurd he (HN.out j _ (by rw[←gb.out];exact hj) (ZX hj))
theorem Zmp(h:StrSl w a n cap ss)(hn:n<=1000000)(s:ByteArray):
  Calls prog 110 #[S_ a n cap,T_ s] w λr w'=>∃t:Bool,r=R_ (B_ t)/\(t=true↔s∈ss)/\L_ w w':=by
 have HI:=ZH (ZqK h hn s);clear h;go_enter func110,ntmps110;go_wp2_with fail;refine HI.out.mono ?_;rintro _ w1 ⟨i,rfl,pH,hb⟩;obtain⟨HF,HB⟩:=ZH2 pH hb;clear pH hb;go_wp2
 go_ret;exact⟨_,rfl,by simpa using HF.out,HB.out⟩
def ConSl(w:World)(a:Option Addr)(n cap:Nat)(cs:List Con):Prop:=n<=cap/\cs.length=n/\(n=0∨∃b off,a=some ⟨b,off,none⟩/\b<w.heap.size/\∀(i:Nat) (c:Con),cs[i]? = some c->∃a0 n0 c0 a1 n1 c1,(∀j,j<7->w.cell? ⟨b,off+i*7+j,none⟩=(Zbi c (S_ a0 n0 c0) (S_ a1 n1 c1))[j]?)/\StrSl w a0 n0 c0 c.s0/\StrSl w a1 n1 c1 c.s1)
theorem ZqJ{cs:List Con}(h:ConSl w a n cap cs)(hn:n<=1000000)(g:Nat)(ek:ByteArray)(hk:w.cell? ⟨g,1,none⟩=some (T_ ek))(hg:g<w.heap.size):
  Calls prog 108 #[S_ a n cap,.func (.func 109) #[] #[P_ (some ⟨g,0,none⟩)]] w λr w'=>∃i:Int,r=R_ (I_ J_ i)/\((∃k:Nat,i=k/\∃c,cs[k]? = some c/\c.key=ek/\∀j c',j<k->cs[j]? = some c'->c'.key≠ek)∨(i = -1/\∀c∈cs,c.key≠ek))/\L_ w w':=by
 obtain⟨HS,gb,kH,Qb⟩:=ZH4 h (h.2.1) hk hg;clear h hk hg;go_enter func108,ntmps108;go_wp2_with fail;go_loopw [5,8] (λ_ i wr=>∃q:Nat,q<=n/\i=I_ J_ q/\Hid (∀j c,j<q->cs[j]? = some c->c.key≠ek)/\Hid (K_ w wr)) (λ_ i _=>n-(intOf i).toNat)
 case atStart=>exact⟨0,ZO,rfl,ZH (λj x hj=>ZO),ZH (ZKr w)⟩
 case round =>
  obtain⟨q,hq,rfl,HN,HK⟩:=hrel;by_cases du:q<n
  ·obtain⟨c,hc⟩:∃c,cs[q]? = some c:=⟨_,ZX (by rw[gb.out];exact du)⟩;rcases HS.out.2.2 with h0|⟨b,off,rfl,hb,gC⟩
   ·omega
   obtain⟨a0,n0,c0,a1,n1,c1,cB,_,_⟩:=gC q c hc;have k0:=cB 0 ZO;have k1:=cB 1 ZO;have k2:=cB 2 ZO;have k3:=cB 3 ZO;have k4:=cB 4 ZO;have k5:=cB 5 ZO;have k6:=cB 6 ZO;rw[←HK.out.cells b _ hb]at k0 k1 k2 k3 k4 k5 k6;simp only[ZD,ZE,ZG,Nat.add_zero]at k0 k1 k2 k3 k4 k5 k6;have fQ:b<wr.heap.size:=ZR hb HK.out.le;have Kh:wr.cell? ⟨g,1,none⟩=some (T_ ek):=by rw[HK.out.cells g _ Qb.out];exact kH.out
   have ez:g<wr.heap.size:=ZR Qb.out HK.out.le;obtain⟨lY,HC⟩:=ZH2 (Zql c a0 a1 n0 c0 n1 c1 g ek Kh ez) hc;clear hc gC cB Kh ez;go_wp2_with fail;refine lY.out.mono ?_;rintro _ w3 ⟨tt,rfl,pH,cG⟩;obtain⟨HI,cU⟩:=ZH2 pH (HK.out.step cG);clear pH cG;rcases tt with _|_
   ·go_wp2
    go_roundw
    case rel=>exact⟨q+1,ZO,ZN,ZH (λj y hj hy=>by
     rcases Nat.lt_or_ge j q with h|h
     ·exact HN.out j y h hy
     ·obtain rfl:j=q:=ZO;rw[HC.out]at hy;injection hy with hy;rw[←hy]
      exact λe=>by have:=HI.out.2 e;first|cases this|exact absurd this ZM),cU⟩
    case measure=>simp[intOf];omega
   ·go_wp2
    go_ret;exact⟨q,rfl,.inl ⟨q,rfl,c,HC.out,HI.out.1 (by first|rfl|trivial),HN.out⟩,cU.out.below⟩
  ·obtain rfl:q=n:=ZO;go_wp2
   go_ret;refine⟨-1,rfl,.inr ⟨rfl,λc hc=>?_⟩,HK.out.below⟩;obtain⟨j,hj,he⟩:=List.getElem_of_mem hc;exact HN.out j c (by rw[←gb.out];exact hj) (by rw[ZX hj,he])
section
variable {w w':World}{a:Option Addr}{n cap:Nat}{cs:List Con}
theorem ConSl.below(h:ConSl w a n cap cs)(hb:L_ w w'):ConSl w' a n cap cs:=by
 obtain⟨h1,h2,h3⟩:=h;refine⟨h1,h2,?_⟩;rcases h3 with h3|⟨b,off,rfl,cI,hc⟩
 ·exact .inl h3
 ·refine .inr ⟨b,off,rfl,ZR cI hb.size,λi c hi=>?_⟩;obtain⟨a0,n0,c0,a1,n1,c1,cB,eu,jG⟩:=hc i c hi;exact⟨a0,n0,c0,a1,n1,c1,λj hj=>by rw[hb.cell (p:=⟨b,off+i*7+j,none⟩) cI];exact cB j hj,eu.below hb,jG.below hb⟩
theorem StrSl.bJ(h:w.ownsRow B 9 1 v ss.length (ss.map Value.string)):∃a c,v=S_ a ss.length c/\StrSl w a ss.length c ss:=by
 obtain⟨a,c,rfl⟩:=Zl h;have eE:ss.length<=c:=by
  rcases h.2 with ⟨h0,h1⟩|⟨g,cap,cur,h0,_,_,fp,_⟩
  ·injection h0 with _ _ h0
   omega
  ·injection h0 with _ _ h0
   omega
 refine⟨a,c,rfl,eE,rfl,?_⟩;by_cases h0:ss.length=0
 ·exact .inl h0
 ·obtain⟨g,hg,ez,cB⟩:=Zbm h ZO;refine .inr ⟨g,0,hg,ez,λi s hs=>?_⟩;have hi:=(ZZ.1 hs).1;rw[Nat.zero_add,cB i (by simp;exact hi),List.getElem?_map,hs];rfl
theorem ZhM:∀(ps:List (Con×Value×Value)) (i j:Nat) (p:Con×Value×Value),ps[i]? = some p->j<7->(conCells ps)[i*7+j]? = (Zbi p.1 p.2.1 p.2.2)[j]?
 | [],i,j,e,h,_=>by simp at h
 |x::ps,0,j,e,h,hj=>by
  simp at h;subst h;simp only[conCells,List.flatMap_cons,Nat.zero_mul,Nat.zero_add];rw[List.getElem?_append_left ZP];simp
 |x::ps,i+1,j,e,h,hj=>by
  have ih:=ZhM ps i j e (by simpa using h) hj;rw[←ih];simp only[conCells,List.flatMap_cons];rw[List.getElem?_append_right ZP];congr 1;simp;omega
theorem Zmn(ps:List (Con×Value×Value)):(conCells ps).length=ps.length*7:=by
 induction ps with
 |nil=>rfl
 |cons e es ih =>
  simp only[conCells,List.flatMap_cons,ZI,List.length_cons]at ih ⊢;rw[ih];simp;omega
theorem ConSl.bR{ps:List (Con×Value×Value)}(h:ConRows B w v ps):∃a c,v=S_ a ps.length c/\ConSl w a ps.length c (ps.map (·.1)):=by
 obtain⟨a,c,rfl⟩:=Zl h.row;have eE:ps.length<=c:=by
  rcases h.row.2 with ⟨h0,h1⟩|⟨g,cap,cur,h0,_,_,fp,_⟩
  ·injection h0 with _ _ h0
   omega
  ·injection h0 with _ _ h0
   omega
 refine⟨a,c,rfl,eE,ZM,?_⟩;by_cases h0:ps.length=0
 ·exact .inl h0
 ·obtain⟨g,hg,ez,cB⟩:=Zbm h.row ZO;refine .inr ⟨g,0,hg,ez,λi c hi=>?_⟩;rw[List.getElem?_map]at hi;obtain⟨p,hp,rfl⟩:=Option.map_eq_some_iff.1 hi;have oS:=(ZZ.1 hp).1;obtain⟨a0,c0,Vj,eu⟩:=StrSl.bJ (h.s0 p (ZY hp));obtain⟨a1,c1,Vk,jG⟩:=StrSl.bJ (h.s1 p (ZY hp));refine⟨a0,_,c0,a1,_,c1,λj hj=>?_,eu,jG⟩;rw[Nat.zero_add,cB _ (by rw[Zmn];omega),ZhM ps i j p hp hj,←Vj,←Vk]
end
def Zb2(L P:Nat)(cs:List Con)(kind:Nat)(key:ByteArray)(label:Nat)(value:ByteArray):Nat :=
 match cs.find? λc=>decide (c.key=key) with
 |none=>if kind=1 then(if L<=cs.length then 15 else 0) else 14
 |some c=>if kind=1 then 13 else
   let s:=if label=0 then c.s0 else c.s1
   if kind=4 then(if P<=s.length then 15 else 0) else if kind=5 then(if (s.any λx=>decide (x=value))=true then 0 else 16) else 0
theorem Zns{pe pf:Nat}{e:Int}{f:Bool}(he:Blk w pe 28 #[I_ J_ e])(hf:Blk w pf 4 #[B_ f])(u:FrameMode):
  CallsD prog 107 #[P_ (some ⟨pe,0,none⟩),P_ (some ⟨pf,0,none⟩)] u w λr u' w'=>u'=u/\(r=R_ (.tuple #[])/\w'=if e=0/\f=true then w.setCell ⟨pe,0,none⟩ (I_ J_ 15) else w):=by
 have c0:=he.cell 0;have c1:=hf.cell 0;have f0:=he.frozen 0;have eE:=he.lt;have sF:=hf.lt;simp only[ZD,ZE]at c0 c1;clear he hf;by_cases h0:e=0
 ·subst h0;rcases f with _|_
  rotate_left
  rotate_left
  all_goals
   go_enter_d func107,ntmps107
   go_wp2_with fail;go_end0
   exact⟨rfl,ZM⟩
 ·have hz:(e==0)=false:=by simpa using h0
  go_enter_d func107,ntmps107
  go_wp2_with fail;go_end0
  exact⟨rfl,ZM⟩
theorem Zdn{x pe pf:Nat}{e:Int}{f:Bool}{tmps:Array Value}(Wd:tmps.getD 6 undef=P_ (some ⟨pe,0,none⟩))(hR:Blk W pe 28 #[I_ J_ e])(hF:Blk W pf 4 #[B_ f])(hB:L_ w W)(sM:w.heap.size<=pe)(hx:(x:Int)=if e=0/\f=true then 15 else e):
  bodyPostD prog f62 (Zx (I_ J_ (x:Int)) w) Exit.ret { tmps:=tmps,defers:=[{ target:=Target.fn (Fn.func 107) #[P_ (some ⟨pe,0,none⟩),P_ (some ⟨pf,0,none⟩)],args:=#[] }] } W:=by
 refine leaves_cons (f:=107) (args:=#[P_ (some ⟨pe,0,none⟩),P_ (some ⟨pf,0,none⟩)]) ZM (by simp[go_sem]) ?_;refine(Zns hR hF .returning).mono ?_;rintro e' u' Av ⟨rfl,rfl,rfl⟩;have dz:Blk (if e=0/\f=true then W.setCell ⟨pe,0,none⟩ (I_ J_ 15) else W) pe 28 #[I_ J_ (if e=0/\f=true then 15 else e)]:=by
  split
  ·exact hR.aj 0 _
  ·exact hR
 have jl:L_ w (if e=0/\f=true then W.setCell ⟨pe,0,none⟩ (I_ J_ 15) else W):=by
  split
  ·exact hB.setCell sM _
  ·exact hB
 rw[←hx]at dz;exact⟨_,Z6 rfl Wd (Zeu dz underlying28),rfl,jl⟩
theorem Zqk(c:Cfg){cs:List Con}(h:ConSl w a n cap cs)(hn:n<=1000000)(dS:∀c∈cs,c.s0.length<=1000000/\c.s1.length<=1000000)(kind:Nat)(key:ByteArray)(label:Nat)(value:ByteArray)(he:EditOk kind key label value):
  Calls prog 62 #[Zd1 c,S_ a n cap,Zfz kind key label value] w (Zx (I_ J_ (Zb2 c.l c.p cs kind key label value)) w):=by
 have VY:∀(fn:Fn) (first cap:Array Value) (w:World),(Instr.makeFunc fn first cap).run prog w=.ok (.func fn first cap) w:=λ_ _ _ _=>rfl
 have cP:=ZbT w (C_ (cfgArr c) 23) (C_ #[I_ J_ kind,T_ key,I_ J_ label,T_ value] 33);have NF:=(ZBn w 23 (cfgArr c)).alloc (C_ #[I_ J_ kind,T_ key,I_ J_ label,T_ value] 33);have xG:=Zag w (C_ (cfgArr c) 23) 33 #[I_ J_ kind,T_ key,I_ J_ label,T_ value];have ju:((w.alloc (C_ (cfgArr c) 23)).alloc (C_ #[I_ J_ kind,T_ key,I_ J_ label,T_ value] 33)).heap.size=w.heap.size+1+1:=ZM;generalize ee:(w.alloc (C_ (cfgArr c) 23)).alloc (C_ #[I_ J_ kind,T_ key,I_ J_ label,T_ value] 33)=w2 at cP NF xG ju;have cG:=cP.alloc (by rw[ju];omega) (C_ #[I_ J_ 0] 28);have i4:=ZBn w2 28 #[I_ J_ 0];rw[ju]at i4;obtain⟨dN,tB,ro,fk,HS,fq,rX,ua⟩:=ZH8 cG (NF.alloc (C_ #[I_ J_ 0] 28)) (xG.alloc (C_ #[I_ J_ 0] 28)) i4 h ee he dS;clear cP NF xG ju cG i4 h ee he dS;go_enter_defers func62,ntmps62
 go_wp2_with fail;have ee:=fq.out;subst ee;refine(Zon kind key label value _ rX.out).mono ?_;rintro _ w3 ⟨rfl,cG⟩;have hC:=tB.out.ob cG;have hE:=ro.out.ob cG;have hR:=fk.out.ob cG;have hB:=dN.out.trans (cG.mono dN.out.size);obtain⟨e0,e1,e2,e3⟩:=hE.four;obtain⟨c0,c1,c2,c3,c4,c5⟩:=hC.aR;have r0:=hR.cell 0;have rf:=hR.frozen 0;simp only[ZD,ZE]at r0;have R6:=hC.lt;have R7:=hE.lt;have Kn:=hR.lt;obtain⟨HC,HE,HR,HB⟩:=ZH4 hC hE hR hB;clear hC hE hR hB cG;go_wp2_with fail;have sM:(w.heap.size+1+1)≠w.heap.size:=ZO;have Hz:(w.heap.size+1)≠(w.heap.size+1+1):=ZO;have FY:=(HC.out.far (p:=⟨w.heap.size+1+1,0,none⟩) (Ne.symm sM) (I_ J_ 0)).alloc (C_ #[B_ false] 4);have pn:=(HE.out.far (p:=⟨w.heap.size+1+1,0,none⟩) Hz (I_ J_ 0)).alloc (C_ #[B_ false] 4);have Rn:=(HR.out.aj 0 (I_ J_ 0)).alloc (C_ #[B_ false] 4);have gg:Blk ((w3.setCell ⟨w.heap.size+1+1,0,none⟩ (I_ J_ 0)).alloc (C_ #[B_ false] 4)) w3.heap.size 4 #[B_ false]:=by
  have:=ZBn (w3.setCell ⟨w.heap.size+1+1,0,none⟩ (I_ J_ 0)) 4 #[B_ false];have hs:(w3.setCell ⟨w.heap.size+1+1,0,none⟩ (I_ J_ 0)).heap.size=w3.heap.size:=by simp[World.setCell]
  rw[hs]at this;exact this
 have jB:Below w.heap.size w ((w3.setCell ⟨w.heap.size+1+1,0,none⟩ (I_ J_ 0)).alloc (C_ #[B_ false] 4)):=(HB.out.setCell (p:=⟨w.heap.size+1+1,0,none⟩) (by show w.heap.size<=w.heap.size+1+1;omega) _).alloc (by simp only[World.setCell,Array.size_modify];first|exact HB.out.size|(have:=HB.out.size;simp;omega)) _;obtain⟨pf,Ac⟩:∃pf,pf=w3.heap.size:=⟨_,rfl⟩;rw[←Ac]at gg ⊢;generalize ((w3.setCell ⟨w.heap.size+1+1,0,none⟩ (I_ J_ 0)).alloc (C_ #[B_ false] 4))=w4 at *;have Ia:pf≠w.heap.size:=by have:=HB.out.size;omega
 have Ib:pf≠w.heap.size+1:=ZO;have Ic:pf≠w.heap.size+1+1:=ZO;have mX:Hid (w.heap.size<=pf):=ZH (by have:=HB.out.size;omega);obtain⟨lZ,tf,ic⟩:=ZH3 Ia Ib Ic;have kF:=ZqJ (HS.out.below jB) hn (w.heap.size+1) key (pn.cell 1) pn.lt;obtain⟨JR,Eo,wY,gS,nH,gy⟩:=ZH6 kF FY pn Rn gg jB;clear kF FY pn Rn gg jB e0 e1 e2 e3 c0 c1 c2 c3 c4 c5 r0 rf R6 R7 Kn Ac Ia Ib Ic sM Hz;refine JR.out.mono ?_;rintro _ w5 ⟨ix,rfl,kF,dH⟩;have hC:=Eo.out.ob dH;have hE:=wY.out.ob dH;have hR:=gS.out.ob dH;have hF:=nH.out.ob dH;have hB:=gy.out.trans (dH.mono gy.out.size);obtain⟨e0,e1,e2,e3⟩:=hE.four;obtain⟨c0,c1,c2,c3,c4,c5⟩:=hC.aR;have r0:=hR.cell 0;have rf:=hR.frozen 0;have f0:=hF.cell 0;have ff:=hF.frozen 0;simp only[ZD,ZE]at r0 f0;have R6:=hC.lt;have R7:=hE.lt;have Kn:=hR.lt;have hlF:=hF.lt;have Ss:∀v,(w5.setCell ⟨pf,0,none⟩ v).cell? ⟨w.heap.size+1+1,0,none⟩=some (I_ J_ 0):=λv=>(World.cell?_setCell_other _ ⟨pf,0,none⟩ ⟨w.heap.size+1+1,0,none⟩ _ (by intro h;injection h with h;exact ic.out (by first|exact h|exact h.symm))).trans r0
 have Kt:∀v,(w5.setCell ⟨pf,0,none⟩ v).frozen? ⟨w.heap.size+1+1,0,none⟩=false:=λv=>(hR.far (p:=⟨pf,0,none⟩) (Ne.symm ic.out) v).frozen 0
 obtain⟨HC,HE,HR,HF,HB,yO⟩:=ZH6 hC hE hR hF hB (HS.out.below hB);clear hC hE hR hF hB dH;rcases kF with ⟨k,rfl,ct,tm,fc,sA⟩|⟨rfl,rL⟩
 ·have pG:cs.find? (λc=>decide (c.key=key))=some ct:=by
   rw[List.find?_eq_some_iff_getElem];obtain⟨hk,Cr⟩:=ZZ.1 tm;exact⟨by simpa using fc,k,hk,Cr,λj hj=>by simpa using sA j _ hj (ZX ZO)⟩
  have rp:=ZH pG;clear pG fc sA;have gh:k<n:=by rw[←HS.out.2.1];exact(ZZ.1 tm).1
  have lr:decide ((0:Int)<=(k:Int))=true:=ZM;have cI:decide ((k:Int)<0)=false:=ZM;have cR:(0:Int)<=(k:Int):=ZO;have hkN:(k:Int)<(n:Int):=ZO;by_cases h1:kind=1
  ·have b1:((kind:Int)==1)=true:=by simp[h1]
   have H1:=ZH h1;clear h1 tm;go_wp2_with fail;refine Zdn rfl ((HR.out.far (p:=⟨pf,0,none⟩) (Ne.symm ic.out) _).aj 0 (I_ J_ 13)) ((HF.out.aj 0 (B_ (decide (c.l<=n)))).far (p:=⟨w.heap.size+1+1,0,none⟩) ic.out _) ((HB.out.setCell (p:=⟨pf,0,none⟩) mX.out _).setCell (p:=⟨w.heap.size+1+1,0,none⟩) (by show w.heap.size<=w.heap.size+1+1;omega) _) ZO ?_;simp[Zb2,rp.out,H1.out]
  ·have b1:((kind:Int)==1)=false:=ZP;by_cases NB:kind=4∨kind=5
   ·obtain⟨S,hS⟩:∃S,S=if label=0 then ct.s0 else ct.s1:=⟨_,rfl⟩
    have gu:label<=1:=(rX.out.long ZO).1;have fG:∃b off av ns No,a=some ⟨b,off,none⟩/\b<w5.heap.size/\w5.cell? ⟨b,off+k*7+5+label,none⟩=some (S_ av ns No)/\StrSl w5 av ns No S:=by
     rcases yO.out.2.2 with h0|⟨b,off,h1,h2,h3⟩
     ·omega
     ·obtain⟨a0,n0,c0,a1,n1,c1,cB,eu,jG⟩:=h3 k ct tm;have jc:label=0∨label=1:=ZO;rcases jc with h|h
      ·refine⟨b,off,a0,n0,c0,h1,h2,?_,by rw[hS,ZPp h];exact eu⟩;rw[h];exact cB 5 ZO
      ·refine⟨b,off,a1,n1,c1,h1,h2,?_,by rw[hS,ZPn ZO];exact jG⟩;rw[h];exact cB 6 ZO
    obtain⟨b,off,av,ns,No,rfl,cW,OF,wD⟩:=fG;have jD:(0:Int)<=(label:Int):=ZO;have jc:(label:Int)<2:=ZO;obtain⟨Qr,DB,MH,HLAB,LX⟩:=ZH5 (wD.2.1) wD hS gu (ZY tm);clear wD hS tm gu;by_cases h4:kind=4
    ·have b4:((kind:Int)==4)=true:=by simp[h4]
     have H4:=ZH h4;clear h1 NB h4;go_wp2_with fail;refine ZSi [(0,3),(1,3),(2,3),(3,0),(4,3),(5,3),(6,3),(7,0),(8,3),(9,3),(10,0),(11,3),(12,2)] λcu=>?_
     repeat((first|refine ZSa ?_|refine ZSb ?_|refine ZSc ?_);simp only[Act.put,Q_])
     refine ZSe λK hK=>?_
     go_simp;refine hK.out _ _ ?_;clear hK K;refine ZSf ?_;have Ss:=Ss (B_ (decide (c.p<=ns)));have Kt:=Kt (B_ (decide (c.p<=ns)));go_wp2_with fail;refine Zdn rfl ((HR.out.drew.far (p:=⟨pf,0,none⟩) (Ne.symm ic.out) _).aj 0 (I_ J_ 0)) ((HF.out.drew.aj 0 (B_ (decide (c.p<=ns)))).far (p:=⟨w.heap.size+1+1,0,none⟩) ic.out _) ((HB.out.drew.setCell (p:=⟨pf,0,none⟩) mX.out _).setCell (p:=⟨w.heap.size+1+1,0,none⟩) (by show w.heap.size<=w.heap.size+1+1;omega) _) ZO ?_;have eW:=Qr.out;simp only[Zb2,rp.out,H4.out,←MH.out,eW];by_cases hq:c.p<=ns <;> simp[hq]
    ·have b4:((kind:Int)==4)=false:=ZP;have h5:kind=5:=ZO;have b5:((kind:Int)==5)=true:=by simp[h5]
     have H5:=ZH h5;clear h1 NB h4 h5;have V0:ns<=1000000:=by
      have h1:=ua.out ct LX.out;rw[←Qr.out,MH.out];split
      ·exact h1.1
      ·exact h1.2
     go_wp2_with fail;refine ZSi [(0,3),(1,3),(2,3),(3,0),(4,3),(5,3),(6,3),(7,0),(8,3),(9,0),(10,1),(11,3)] λcu=>?_
     repeat((first|refine ZSa ?_|refine ZSb ?_|refine ZSc ?_);simp only[Act.put,Q_])
     refine ZSd λK hK=>?_
     go_simp;refine(Zmp (DB.out.below (ZW _ _).drew) V0 value).mono ?_;rintro _ w6 ⟨tt,rfl,Ku,eK⟩;refine hK.out (λw'=>Kept w5.heap.size w5 w') _ _ (λ_ h=>h) (cu.step eK) (λcA=>?_);clear hK K cu;repeat((first|refine ZSa ?_|refine ZSb ?_|refine ZSc ?_);simp only[Act.put,Q_])
     refine ZSf ?_;have sf:=ZH Ku;have F8:=HR.out.ob cA.below;have r6:w6.cell? ⟨w.heap.size+1+1,0,none⟩=some (I_ J_ 0):=F8.cell 0;have rf6:=F8.frozen 0;have hlR6:=F8.lt;obtain⟨nL,rY,jT⟩:=ZH3 F8 (HF.out.ob cA.below) (HB.out.trans (cA.below.mono HB.out.size));clear F8 cA eK Ku;have uL:((Zb2 c.l c.p cs kind key label value:Nat):Int)=if tt=true then 0 else 16:=by
      have gV:(S.any λx=>decide (x=value))=tt:=by
       have h1:=sf.out;have h2:(S.any λx=>decide (x=value))=true↔value∈S:=ZM;rcases tt with _|_
       ·cases hx:S.any λx=>decide (x=value) with
        |false=>rfl
        |true=>exact absurd (h1.2 (h2.1 hx)) ZM
       ·exact h2.2 (h1.1 rfl)
      simp only[Zb2,rp.out,H5.out,←MH.out];rw[gV];rcases tt with _|_ <;> simp
     have wW:=ZH uL;clear uL;rcases tt with _|_
     ·go_wp2_with fail;refine Zdn rfl (nL.out.aj 0 (I_ J_ 16)) (rY.out.far (p:=⟨w.heap.size+1+1,0,none⟩) ic.out _) (jT.out.setCell (p:=⟨w.heap.size+1+1,0,none⟩) (by show w.heap.size<=w.heap.size+1+1;omega) _) ZO ?_;rw[wW.out];simp
     ·go_wp2_with fail;refine Zdn rfl (nL.out.aj 0 (I_ J_ 0)) (rY.out.far (p:=⟨w.heap.size+1+1,0,none⟩) ic.out _) (jT.out.setCell (p:=⟨w.heap.size+1+1,0,none⟩) (by show w.heap.size<=w.heap.size+1+1;omega) _) ZO ?_;rw[wW.out];simp
   ·have b4:((kind:Int)==4)=false:=ZP;have b5:((kind:Int)==5)=false:=ZP;have uL:((Zb2 c.l c.p cs kind key label value:Nat):Int)=0:=by
     simp only[Zb2,rp.out];rw[ZPn h1,ZPn ZO,ZPn ZO];rfl
    have wW:=ZH uL;clear h1 NB uL;go_wp2_with fail;refine Zdn rfl (HR.out.aj 0 (I_ J_ 0)) (HF.out.far (p:=⟨w.heap.size+1+1,0,none⟩) ic.out _) (HB.out.setCell (p:=⟨w.heap.size+1+1,0,none⟩) (by show w.heap.size<=w.heap.size+1+1;omega) _) ZO ?_;rw[wW.out];simp
 ·have pG:cs.find? (λc=>decide (c.key=key))=none:=by
   rw[List.find?_eq_none];intro x hx;simpa using rL x hx
  have rp:=ZH pG;clear pG rL;by_cases h1:kind=1
  ·have b1:((kind:Int)==1)=true:=by simp[h1]
   have H1:=ZH h1;clear h1;go_wp2_with fail;refine Zdn rfl ((HR.out.far (p:=⟨pf,0,none⟩) (Ne.symm ic.out) _).aj 0 (I_ J_ 0)) ((HF.out.aj 0 (B_ (decide (c.l<=n)))).far (p:=⟨w.heap.size+1+1,0,none⟩) ic.out _) ((HB.out.setCell (p:=⟨pf,0,none⟩) mX.out _).setCell (p:=⟨w.heap.size+1+1,0,none⟩) (by show w.heap.size<=w.heap.size+1+1;omega) _) ZO ?_;have fg:cs.length=n:=HS.out.2.1;simp only[Zb2,rp.out,H1.out,if_true,fg];by_cases hq:c.l<=n <;> simp[hq]
  ·have b1:((kind:Int)==1)=false:=ZP;have H1:=ZH h1;clear h1;go_wp2_with fail;refine Zdn rfl (HR.out.aj 0 (I_ J_ 14)) (HF.out.far (p:=⟨w.heap.size+1+1,0,none⟩) ic.out _) (HB.out.setCell (p:=⟨w.heap.size+1+1,0,none⟩) (by show w.heap.size<=w.heap.size+1+1;omega) _) ZO ?_;simp[Zb2,rp.out,H1.out]
abbrev hubStArr(up:Bool)(dv:Value)(c:Cfg)(pv:Value):Array Value:=#[B_ up,dv,I_ J_ c.n,I_ J_ c.w,I_ J_ c.q,I_ J_ c.h,I_ J_ c.l,I_ J_ c.p,pv]
structure HubAt(own:Own)(t:Nat)(w:World)(p:Nat)(c:Cfg)(up:Bool)(d:Dk)(sh:List Sh)(told:List Clk):Prop where
 mine:own p=t
 len:sh.length=c.n
 ex:∃dp pp,Blk w p 124 (hubStArr up (P_ (some ⟨dp,0,none⟩)) c (P_ (some ⟨pp,0,none⟩)))/\DiskAt own (t+1) w dp d/\PostAt own (t+10) w pp c.w sh told
def HubT(t:Nat)(n:Nat):Prop:=t<=n/\n<t+50
section
variable {own own':Own}{t p:Nat}{w w':World}{c:Cfg}{up:Bool}{d:Dk}{sh:List Sh}{told:List Clk}{T:Nat->Prop}
theorem HubAt.upd(h:HubAt own t w p c up d sh told)(hu:Upd T own own' w w')(hT:∀n,HubT t n->¬T n)(hN:sh.length<=5):HubAt own' t w' p c up d sh told:=by
 obtain⟨h1,h2,dp,pp,h3,h4,h5⟩:=h;refine⟨by rw[hu.old p h3.lt];exact h1,h2,dp,pp,h3.upd hu (by rw[h1];exact hT t ⟨ZL _,ZO⟩),h4.upd hu (hT _ ⟨ZO,ZO⟩),h5.upd hu (λi hi=>hT _ ⟨ZO,ZO⟩)⟩
theorem Blk.am{ty:TypeId}{v0 v1 v2 v3 v4 v5 v6 v7 v8:Value}(h:Blk w g ty #[v0,v1,v2,v3,v4,v5,v6,v7,v8]):w.cell? ⟨g,0,none⟩=some v0/\w.cell? ⟨g,1,none⟩=some v1/\w.cell? ⟨g,2,none⟩=some v2/\w.cell? ⟨g,3,none⟩=some v3/\w.cell? ⟨g,4,none⟩=some v4/\w.cell? ⟨g,5,none⟩=some v5/\w.cell? ⟨g,6,none⟩=some v6/\w.cell? ⟨g,7,none⟩=some v7/\w.cell? ⟨g,8,none⟩=some v8 :=
 ⟨h.cell 0,h.cell 1,h.cell 2,h.cell 3,h.cell 4,h.cell 5,h.cell 6,h.cell 7,h.cell 8⟩
end
def ZbL(up:Bool)(sh:List Sh)(told:List Clk):Value:=if up=true then Zbw true (Zdw sh) (lenOf sh) (Zbp told) else Zbw false ZCz ZCz (List.replicate 5 ZCz)
theorem hub_site{own:Own}{c:Cfg}{up:Bool}{d:Dk}{told:List Clk}(h:HubAt own t w p c up d sh told)(hf:Fresh own w)(hN:sh.length<=5)(hk:∀s∈sh,s.kept.length<=1000000/\s.base<=1000000):
  Calls prog 52 #[P_ (some ⟨p,0,none⟩)] w (Zx (ZbL up sh told) w):=by
 obtain⟨h1,h2,dp,pp,h3,h4,h5⟩:=h;have HZ:=ZH (ZBn w 56 (Zt false ZCz ZCz (List.replicate 5 ZCz)));have cR:=(ZKr w).alloc (C_ (Zt false ZCz ZCz (List.replicate 5 ZCz)) 56);have qH:=h3.alloc (C_ (Zt false ZCz ZCz (List.replicate 5 ZCz)) 56);obtain⟨c0,c1,c2,c3,c4,c5,c6,c7,c8⟩:=qH.am;have cI:=h3.lt;have Cx:=qH.lt;have dt:Upd (λ_=>False) own own w (w.alloc (C_ (Zt false ZCz ZCz (List.replicate 5 ZCz)) 56)):=ZUb cR.below hf;have yq:=h5.upd dt (λ_ _ h=>h);have iS:=ZH (Ze7 yq dt.fresh hN hk);have sv:(Zbp told).length=5:=Zdm (by rw[h5.len];exact hN);obtain⟨ed,HA⟩:=ZH2 cR sv;clear cR qH h3 h4 h5 dt yq sv;obtain⟨W0,iq⟩:∃W0,W0=w.alloc (C_ (Zt false ZCz ZCz (List.replicate 5 ZCz)) 56):=⟨_,rfl⟩;rw[←iq]at HZ ed iS c0 c1 c2 c3 c4 c5 c6 c7 c8 Cx;have nk:=ZH iq;clear iq;have eC:=N_
 rcases up with _|_
 ·go_enter func52,ntmps52
  go_wp2_with (first
   |(refine ZS rfl 56 rfl (Zt false ZCz ZCz (List.replicate 5 ZCz)) ZK ?_
     rw[←nk.out])
   |(refine Zat rfl 56 _ rfl (Zt false ZCz ZCz (List.replicate 5 ZCz)) ?hf ?_
     case hf=>kernel_rfl)
   |(refine wpList_store_row rfl 56 (.tmp 2) (.tmp 9) rfl w.heap.size (Zt false ZCz ZCz (List.replicate 5 ZCz)) rfl rfl 56 (Zt false ZCz ZCz (List.replicate 5 ZCz)) HZ.out (ZbU _ _ _ (acks:=List.replicate 5 ZCz) rfl) (by simp only[Zcs]) (Zdy _ _ _ _) ?_))
  refine bodyPost_ret (Z6 rfl rfl (run_loadVar_row _ _ _ _ _ _ _ (HZ.out.row _) underlying56 rfl (ZbU _ _ _ (acks:=List.replicate 5 ZCz) rfl))) rfl ?_;exact⟨by simp[ZbL,Zbw],(ed.out.row (ZL _) _).below⟩
 ·go_enter func52,ntmps52
  go_wp2_with (first
   |(refine ZS rfl 56 rfl (Zt false ZCz ZCz (List.replicate 5 ZCz)) ZK ?_
     rw[←nk.out]))
  refine iS.out.mono ?_;rintro _ w1 ⟨rfl,cz⟩;have cV:=HZ.out.ob cz;have m9:=cV.lt;obtain⟨lK,da⟩:=ZH2 cV (ed.out.step cz);clear cV cz
  go_wp2_with (first
   |(refine wpList_store_row rfl 56 (.tmp 2) (.tmp 14) rfl w.heap.size (Zt true (Zdw sh) (lenOf sh) (Zbp told)) rfl rfl 56 (Zt false ZCz ZCz (List.replicate 5 ZCz)) lK.out (ZbU _ _ _ HA.out) (by simp only[Zcs,HA.out,List.length_replicate]) (Zdy _ _ _ _) ?_))
  refine bodyPost_ret (Z6 rfl rfl (run_loadVar_row _ _ _ _ _ _ _ (lK.out.row _) underlying56 rfl (ZbU _ _ _ HA.out))) rfl ?_;exact⟨by simp[ZbL,Zbw],(da.out.row (ZL _) _).below⟩
theorem ZiJ{sh:List Sh}{r:Nat}{c:Clk}:∀{k:Nat} {e:Ev},e∈Zad sh r c k->∃s∈sh,e∈s.kept
 | 0,e,h=>by simp[Zad]at h
 |k+1,e,h=>by
  rw[Zad,List.mem_append]at h;rcases h with h|h
  ·exact ZiJ h
  ·split at h
   ·rename_i s hs;split at h
    ·simp at h
    ·exact⟨s,ZY hs,(List.mem_filter.1 h).1⟩
   ·simp at h
theorem ZfM{sh:List Sh}{r:Nat}{c:Clk}{m:Nat}(h:∀s∈sh,s.kept.length<=m):∀k,(Zad sh r c k).length<=k*m
 | 0=>by simp[Zad]
 |k+1=>by
  have ih:=ZfM (r:=r) (c:=c) h k;have h2:(match sh[k]? with|some s=>if k=r then [] else Zbd (c.get k) s.kept|none=>[]).length<=m:=by
   split
   ·rename_i s hs;split
    ·simp
    ·exact ZT (List.length_filter_le _ _) (h s (ZY hs))
   ·simp
  rw[Zad,ZI,Nat.succ_mul];exact Nat.add_le_add ih h2
def Zbc(r:Nat)(l:List Ev):Frm:=⟨4,r,0,ZCz,l⟩
theorem ZbS(i:Nat):ZCz.get i=0:=by
 match i with
 | 0=>rfl
 | 1=>rfl
 | 2=>rfl
 | 3=>rfl
 | 4=>rfl
 |n+5=>exact Clk.aC _ ZO
theorem Zk2{r:Nat}(hr:r<5)(hl:l.length<=20)(he:∀e∈l,e.Ok):(Zbc r l).Ok :=
 ⟨by simp[Zbc],by simp[Zbc],hr,by simp[Zbc],by simp[Zbc],λi=>by simp[Zbc,ZbS],by simp[Zbc],he,hl,by simp[Zbc],by simp[Zbc]⟩
theorem ZqF{own:Own}{c:Cfg}{up:Bool}{d:Dk}{told:List Clk}(h:HubAt own t w p c up d sh told)(hf:Fresh own w)(hN:sh.length<=5)(hk:∀s∈sh,s.kept.length<=4/\∀e∈s.kept,e.Ok)(f:Frm)(hr:f.r<sh.length):
  Calls prog 94 #[P_ (some ⟨p,0,none⟩),Zah f (S_ a n cap)] w λr w'=>∃v,r=R_ (.tuple #[I_ J_ f.r,v,I_ J_ 0])/\w'.ownsRow w.heap.size 5 1 v (Zn (Zbc f.r (Zad sh f.r f.clock sh.length))).length (cells (Zn (Zbc f.r (Zad sh f.r f.clock sh.length))))/\L_ w w':=by
 obtain⟨h1,h2,dp,pp,h3,h4,h5⟩:=h;have cR:=(ZKr w).alloc (C_ (Za f (S_ a n cap)) 158);have hX:=ZBn w 158 (Za f (S_ a n cap));have qH:=h3.alloc (C_ (Za f (S_ a n cap)) 158);have dt:Upd (λ_=>False) own own w (w.alloc (C_ (Za f (S_ a n cap)) 158)):=ZUb cR.below hf;have yq:=h5.upd dt (λ_ _ h=>h)
 have em:(Zbc f.r (Zad sh f.r f.clock sh.length)).Ok:=Zk2 ZO (by have:=ZfM (r:=f.r) (c:=f.clock) (m:=4) (λs hs=>(hk s hs).1) sh.length;omega) (λe he=>by
  obtain⟨s,hs,he⟩:=ZiJ he
  exact(hk s hs).2 e he)
 have gR:=ZH h2;clear h2;obtain⟨HX,HB,HU,HP,ed,dU,HK⟩:=ZH7 hX qH dt yq cR em hk;clear h3 h4 h5 hX qH dt yq cR hf em hk;go_enter func94,ntmps94;go_wp2_with fail;generalize w.alloc (C_ (Za f (S_ a n cap)) 158)=W at *;refine ZSi [(0,3),(1,0),(2,3),(3,0),(4,3),(5,0),(6,3),(7,0),(8,1),(9,3),(10,3),(11,3),(12,3),(13,3)] λcu=>?_
 repeat((first|refine ZSa ?_|refine ZSb ?_|(refine Zf rfl (by rfl) (λw' cL=>by(obtain⟨c0,c1,c2,c3,c4,c5,c6,c7,c8⟩:=(HB.out.ob cL.below).am);(obtain⟨x0,x1,x2,x3,x4,x5,x6,x7,x8⟩:=(HX.out.ob cL.below).am);go_simp;with_reducible rfl) ?_));simp only[Act.put,Q_])
 refine ZSd λK hK=>?_
 go_simp;have dE:Upd (λ_=>False) own own W W.drew:=ZUb (ZW W.heap.size W).drew HU.out.fresh;refine(ZpC (HP.out.upd dE (λ_ _ h=>h)) hN f.r hr f.clock (λs hs=>by have:=(HK.out s hs).1;omega) dE.fresh).mono ?_;rintro _ w2 ⟨v2,rfl,dV,cD⟩;obtain⟨a2,UY,rfl,ju⟩:=EvSl.ae dV;have fB:=ZH ju;refine hK.out (λw'=>K_ W w') _ _ (λ_ h=>h) (cu.step cD) (λcA=>?_);clear hK K cu dV ju cD dE;repeat((first|refine ZSa ?_|refine ZSb ?_|refine ZSc ?_);simp only[Act.put,Q_])
 refine ZSf ?_;obtain⟨x0,x1,x2,x3,x4,x5,x6,x7,x8⟩:=(HX.out.ob cA.below).am;have ko:=(HX.out.ob cA.below).lt;obtain⟨lJ,HH⟩:=ZH2 (ZhV dU.out fB.out) cA;clear cA;go_wp2_with fail;refine lJ.out.mono ?_;rintro _ w3 ⟨v3,rfl,fd,cG⟩;obtain⟨fk,TZ⟩:=ZH2 fd (HH.out.step cG);clear fd cG;go_wp2_with fail;go_ret3
 exact⟨v3,rfl,Zj fk.out (ZT ed.out.le HH.out.le),ed.out.below.trans (TZ.out.below.mono ed.out.le)⟩
theorem Zf7{d:Nat}(hc:w.cell? ⟨p,1,none⟩=some (P_ (some ⟨d,0,none⟩))):
  Calls prog 86 #[P_ (some ⟨p,0,none⟩)] w (Zx (P_ (some ⟨d,0,none⟩)) w):=by
 go_enter func86,ntmps86;go_wp2
 go_ret;exact⟨rfl,ZW _ _⟩
theorem Zfl{d:Nat}(hc:w.cell? ⟨p,8,none⟩=some (P_ (some ⟨d,0,none⟩))):
  Calls prog 79 #[P_ (some ⟨p,0,none⟩)] w (Zx (P_ (some ⟨d,0,none⟩)) w):=by
 go_enter func79,ntmps79;go_wp2
 go_ret;exact⟨rfl,ZW _ _⟩
structure NodeSt where
 up:Bool
 d:Dk
 log:List Ev
 sent:Nat
 book:List (ByteArray×List Ev)
 clk:Clk
 held:List Ev
 wait:List Ev
abbrev nodeArr(c:Cfg)(r:Nat)(up:Bool)(dv lv:Value)(sent:Nat)(bv iv ov:Value):Array Value :=
 #[I_ J_ c.n,I_ J_ c.w,I_ J_ c.q,I_ J_ c.h,I_ J_ c.l,I_ J_ c.p,I_ J_ r,B_ up,dv,lv,I_ J_ sent,bv,iv,ov]
abbrev ptrV(b:Nat):Value := P_ (some ⟨b,0,none⟩)
def NodeT(t:Nat)(n:Nat):Prop:=t<=n/\n<t+6
structure NodeAt(own:Own)(t:Nat)(w:World)(p:Nat)(c:Cfg)(r:Nat)(s:NodeSt):Prop where
 mine:own p=t
 ex:∃dp bp ip op lv,Blk w p 133 (nodeArr c r s.up (ptrV dp) lv s.sent (ptrV bp) (ptrV ip) (ptrV op))/\DiskAt own (t+1) w dp s.d/\RowAt own (t+2) w lv s.log/\LiveAt own (t+3) w bp s.book/\InboxAt own (t+4) w ip c.h s.clk s.held/\OutboxAt own (t+5) w op c.q c.w s.sent s.wait
section
variable {own own':Own}{t p r:Nat}{w w':World}{c:Cfg}{s:NodeSt}{T:Nat->Prop}
theorem NodeAt.upd(h:NodeAt own t w p c r s)(hu:Upd T own own' w w')(hT:∀n,NodeT t n->¬T n):NodeAt own' t w' p c r s:=by
 obtain⟨h1,dp,bp,ip,op,lv,h3,h4,h5,h6,h7,h8⟩:=h;exact⟨by rw[hu.old p h3.lt];exact h1,dp,bp,ip,op,lv,h3.upd hu (by rw[h1];exact hT t ⟨ZL _,ZO⟩),h4.upd hu (hT _ ⟨ZO,ZO⟩),h5.upd hu (hT _ ⟨ZO,ZO⟩),h6.upd hu (hT _ ⟨ZO,ZO⟩),h7.upd hu (hT _ ⟨ZO,ZO⟩),h8.upd hu (hT _ ⟨ZO,ZO⟩)⟩
theorem Blk.ai{ty:TypeId}{v0 v1 v2 v3 v4 v5 v6 v7 v8 v9 yN Dj KC KD:Value}(h:Blk w g ty #[v0,v1,v2,v3,v4,v5,v6,v7,v8,v9,yN,Dj,KC,KD]):w.cell? ⟨g,6,none⟩=some v6/\w.cell? ⟨g,7,none⟩=some v7/\w.cell? ⟨g,8,none⟩=some v8/\w.cell? ⟨g,9,none⟩=some v9/\w.cell? ⟨g,10,none⟩=some yN/\w.cell? ⟨g,11,none⟩=some Dj/\w.cell? ⟨g,12,none⟩=some KC/\w.cell? ⟨g,13,none⟩=some KD :=
 ⟨h.cell 6,h.cell 7,h.cell 8,h.cell 9,h.cell 10,h.cell 11,h.cell 12,h.cell 13⟩
end
section
variable {own:Own}{t p r:Nat}{w:World}{c:Cfg}{s:NodeSt}
theorem ZjY(h:NodeAt own t w p c r s)(hf:Fresh own w):
  Calls prog 44 #[ptrV p] w λe w'=>e=R_ (.tuple #[])/\NodeAt own t w' p c r { s with up:=false,d:=s.d.aH }/\Upd (NodeT t) own own w w':=by
 obtain⟨h1,dp,bp,ip,op,lv,h3,h4,h5,h6,h7,h8⟩:=h;obtain⟨c6,c7,c8,c9,dg,dh,eH,eI⟩:=h3.ai;have f0:=h3.frozen 7;have cI:=h3.lt;have cN:Upd (· = t) own own w (w.setCell ⟨p,7,none⟩ (B_ false)):=(Upd.refl (· = t) own w hf).setCell (p:=⟨p,7,none⟩) (λ_=>h1) _;have cz:Blk (w.setCell ⟨p,7,none⟩ (B_ false)) p 133 (nodeArr c r false (ptrV dp) lv s.sent (ptrV bp) (ptrV ip) (ptrV op)):=h3.aj 7 _;obtain⟨fl,dA,dj,rW,LJ,da,Lt,rq⟩:=ZH8 (Zfl (w:=w.setCell ⟨p,7,none⟩ (B_ false)) (p:=p) (d:=dp) (cz.cell 8)) cN cz (h4.upd cN ZO) (h5.upd cN ZO) (h6.upd cN ZO) (h7.upd cN ZO) (h8.upd cN ZO);clear cN cz h3 h4 h5 h6 h7 h8;go_enter func44,ntmps44;go_wp2_with fail;refine fl.out.mono ?_;rintro _ w2 ⟨rfl,cD⟩;have cM:=dA.out.kept cD;have fI:Upd (λ_=>False) own own (w.setCell ⟨p,7,none⟩ (B_ false)) w2:=ZUb cD dA.out.fresh;obtain⟨HC,xj,df,dC⟩:=ZH4 (ZgP (rW.out.upd fI (λh=>h)) cM.fresh) fI (dj.out.ob cD) cM;clear cM fI cD;go_wp2_with fail;refine HC.out.mono ?_;rintro _ w3 ⟨rfl,iM,de⟩;go_wp2_with fail;go_end0
 have jR:=(xj.out.mono (T':=λm=>m=t+1) (λn h=>h.elim)).trans de;exact⟨rfl,⟨h1,dp,bp,ip,op,lv,df.out.upd de ZO,iM,LJ.out.upd jR ZO,da.out.upd jR ZO,Lt.out.upd jR ZO,rq.out.upd jR ZO⟩,(dC.out.mono (λn h=>⟨ZO,ZO⟩)).trans (de.mono (λn h=>⟨ZO,ZO⟩))⟩
theorem Zss(h:NodeAt own t w p c r s)(hf:Fresh own w)(keep:Int):
  Calls prog 277 #[ptrV p,I_ J_ keep] w λe w'=>e=R_ (.tuple #[])/\NodeAt own t w' p c r { s with d:=s.d.aV keep }/\Upd (NodeT t) own own w w':=by
 obtain⟨h1,dp,bp,ip,op,lv,h3,h4,h5,h6,h7,h8⟩:=h;have cI:=h3.lt;obtain⟨fl,dj,rW,LJ,da,Lt,rq,HF⟩:=ZH8 (Zfl (w:=w) (p:=p) (d:=dp) (h3.cell 8)) h3 h4 h5 h6 h7 h8 hf;clear h3 h4 h5 h6 h7 h8 hf;go_enter func277,ntmps277;go_wp2_with fail;refine fl.out.mono ?_;rintro _ w2 ⟨rfl,cD⟩;have fI:Upd (λ_=>False) own own w w2:=ZUb cD HF.out;obtain⟨HC,df,xj⟩:=ZH3 (Zmv keep (rW.out.upd fI (λh=>h)) fI.fresh) (dj.out.ob cD) fI;clear fI cD;go_wp2_with fail;refine HC.out.mono ?_;rintro _ w3 ⟨rfl,iM,de⟩;go_wp2_with fail;go_end0
 have jR:=(xj.out.mono (T':=λm=>m=t+1) (λn h=>h.elim)).trans de;exact⟨rfl,⟨h1,dp,bp,ip,op,lv,df.out.upd de ZO,iM,LJ.out.upd jR ZO,da.out.upd jR ZO,Lt.out.upd jR ZO,rq.out.upd jR ZO⟩,jR.mono (λn h=>⟨ZO,ZO⟩)⟩
def ZdE(s:NodeSt)(w:World)(e:Ending)(w':World):Prop :=
 if s.up=true then ∃v,e=R_ (.tuple #[v,I_ J_ 0])/\ZgH (listN s.book) w (R_ v) w' else e=R_ (.tuple #[S_ none 0 0,I_ J_ 18])/\L_ w w'
theorem ZqZ(h:NodeAt own t w p c r s)(hK:s.book.length<=1000)(hb:∀x∈s.book,x.1.size<=1000000/\x.2.length<=100/\∀e∈x.2,e.r<5):
  Calls prog 41 #[ptrV p] w (ZdE s w):=by
 obtain⟨h1,dp,bp,ip,op,lv,h3,h4,h5,h6,h7,h8⟩:=h;obtain⟨c6,c7,c8,c9,dg,dh,eH,eI⟩:=h3.ai;have cI:=h3.lt;have eC:=N_
 have HL:=ZH (Zle h6 hK hb);clear h3 h4 h5 h6 h7 h8 hb;obtain⟨up,d,log,sent,book,clk,held,wait⟩:=s;rcases up with _|_
 ·go_enter func41,ntmps41;go_wp2_with fail;go_ret2
  exact⟨rfl,ZW _ _⟩
 ·go_enter func41,ntmps41;go_wp2_with fail;refine HL.out.mono ?_;intro e w2 hP;have gB:=hP;obtain⟨v,ps,rfl,ly⟩:=hP;have HP:=ZH gB;clear gB ly;go_wp2_with fail;go_ret2
  exact⟨v,rfl,HP.out⟩
end
def clkOf(l:List Ev):Clk:=l.foldl (λc e=>c.set e.r (c.get e.r+1)) ZCz
def waitN(r sent:Nat)(l:List Ev):List Ev:=l.filter λe=>decide (e.r=r)&&decide (sent<e.n)
theorem ZgM(l:List Ev)(e:Ev):clkOf (l++[e])=(clkOf l).set e.r ((clkOf l).get e.r+1):=by simp[clkOf]
theorem ZjC(i:Nat):∀(l:List Ev) (c:Clk),(∀e∈l,e.r<5)->(l.foldl (λc e=>c.set e.r (c.get e.r+1)) c).get i=c.get i+(l.filter λe=>decide (e.r=i)).length
 | [],c,_=>ZM
 |e::l,c,h=>by
  rw[List.foldl_cons,ZjC i l _ (λx hx=>h x (List.mem_cons_of_mem _ hx))];have hr:=h e ZM;by_cases hi:e.r=i
  ·subst hi;rw[Clk.aq _ hr];simp;omega
  ·rw[Clk.ao _ hi];simp[hi]
theorem ZkV(h:∀e∈l,e.r<5)(i:Nat):(clkOf l).get i=(l.filter λe=>decide (e.r=i)).length:=by
 unfold clkOf;rw[ZjC i l _ h,ZbS];omega
theorem ZrU(h:∀e∈l,e.r<5)(i:Nat):(clkOf l).get i<=l.length:=by
 rw[ZkV h];exact List.length_filter_le _ _
theorem Blk.node6{ty:TypeId}{v0 v1 v2 v3 v4 v5 v6 v7 v8 v9 yN Dj KC KD:Value}(h:Blk w g ty #[v0,v1,v2,v3,v4,v5,v6,v7,v8,v9,yN,Dj,KC,KD]):w.cell? ⟨g,0,none⟩=some v0/\w.cell? ⟨g,1,none⟩=some v1/\w.cell? ⟨g,2,none⟩=some v2/\w.cell? ⟨g,3,none⟩=some v3/\w.cell? ⟨g,4,none⟩=some v4/\w.cell? ⟨g,5,none⟩=some v5 :=
 ⟨h.cell 0,h.cell 1,h.cell 2,h.cell 3,h.cell 4,h.cell 5⟩
structure BuildRun(own0 own:Own)(t:Nat)(w0:World)(p dp bp op:Nat)(lv iv:Value)(c:Cfg)(r:Nat)(up:Bool)(d:Dk)(log:List Ev)(sent:Nat)(sk:Nat)(q:Nat)(w:World):Prop where
 mine:own p=t
 blk:Blk w p 133 (nodeArr c r up (ptrV dp) lv sent (ptrV bp) iv (ptrV op))
 disk:DiskAt own (t+1) w dp d
 row:RowAt own (t+2) w lv log
 live:LiveAt own (t+3) w bp ((log.take q).foldl applyN [])
 out:OutboxAt own (t+5) w op c.q c.w sent (waitN r sent (log.take q))
 seen:Blk w sk 44 (clkArr (clkOf (log.take q)))
 sk0:own sk=0
 upd:Upd (NodeT t) own0 own w0 w
section
variable {own0 own own':Own}{t:Nat}{w0 w w':World}{p dp bp op:Nat}{lv iv:Value}{c:Cfg}{r:Nat}{up:Bool}{d:Dk}{log:List Ev}{sent sk q:Nat}{T:Nat->Prop}
theorem RowAt.none_(own:Own)(t:Nat)(w:World):RowAt own t w (S_ none 0 0) []:=⟨⟨rfl,.inl ⟨rfl,rfl⟩⟩,λg h=>by cases h⟩
end
end Go.Proofs.YtjkfognelhiepaaGreat
