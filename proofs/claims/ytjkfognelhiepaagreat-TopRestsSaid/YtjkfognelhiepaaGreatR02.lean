import Derived.Test.YtjkfognelhiepaaGreatR01
import Derived.WideKeyRuns
import Derived.MapKept
import Derived.ChangeKeysEq
import Derived.Laws.StructEq
import Derived.Carry
import Derived.Deep.Cut
import Derived.Lib.AppendZeros
import Derived.Lib.SliceRun
namespace Go.Proofs.YtjkfognelhiepaaGreat
open Go.RowKit _root_.Go.Proofs.Tryz
open Go.Value renaming slice→S_,int→I_,bool→B_,string→T_,pointer→P_
open Go.IntKind renaming i64→J_
open Go.Obj renaming cells→C_
open Go.Ending renaming returned→R_
set_option maxRecDepth 100000
set_option maxHeartbeats 8000000
variable{P:Program}{W w:World}{a:Option Addr}{b cap g i most n p r t1:Nat}{c:Clk}{e:Ev}{es held l m:List Ev}{fn:Func}{t:TypeId}{tmps:Array Value}{v v1 v2 v3:Value}
section
theorem Zp1(v:ByteArray)(w:World)(h1:1<=v.size)(h2:v.size<=12):Calls prog 149 #[T_ v] w (Zx (I_ J_ 0) w) :=
 (Znl v w h1 h2).mono λe w' h=>⟨h.1,by rw[←h.2];exact ZW _ _⟩
theorem Zc4{w1 w2:World}{row:Option Nat}(h:w.grownBy w1 row)(g:w1.grownBy w2 row):w.grownBy w2 row :=
 ⟨g.os.trans h.os,g.tape.trans h.tape,g.output.trans h.output,ZT h.size g.size,λk hk hr=>(g.block k (ZR hk h.size) hr).trans (h.block k hk hr)⟩
theorem Zg1(w:World)(row:Option Nat):w.grownBy w row:=⟨rfl,rfl,rfl,ZL _,λ_ _ _=>rfl⟩
theorem ZiP{row:Option Nat}(h:w.grownBy W row)(o:Obj):w.grownBy (W.alloc o) row :=
 ⟨h.os,h.tape,h.output,ZT h.size ZM,λk hk hr=>(Below.heap_alloc _ _ _ (ZR hk h.size)).trans (h.block k hk hr)⟩
theorem ZmD{row:Option Nat}(h:w.grownBy W row){p:Addr}(hp:w.heap.size<=p.block)(v:Value):w.grownBy (W.setCell p v) row :=
 ⟨h.os,h.tape,h.output,ZT h.size (by simp[World.setCell]),λk hk hr=>(Below.heap_setCell _ _ _ _ ZO).trans (h.block k hk hr)⟩
abbrev Ev.zero:Ev:=⟨0,0,ZCz,0,0,⟨#[]⟩,0,⟨#[]⟩⟩
def Zgg(c:Clk)(r:Nat):Nat->Clk
 | 0=>ZCz
 |k+1=>if k=r then Zgg c r k else(Zgg c r k).set k (c.get k)
theorem Zr2(c:Clk)(h:r<5):(Zgg c r 5).set r (c.get r)=c:=by
 match r,h with
 | 0,_=>rfl
 | 1,_=>rfl
 | 2,_=>rfl
 | 3,_=>rfl
 | 4,_=>rfl
theorem ZiE(c:Clk)(r:Nat)(k:Nat):∀(m:Nat),k<=m->∃t,Zas c r m=Zas c r k++t
 | 0,h=>⟨[],by
  obtain rfl:k=0:=ZO
  simp⟩
 |m+1,h=>by
  rcases Nat.eq_or_lt_of_le h with rfl|h'
  ·exact⟨[],ZM⟩
  ·obtain⟨t,ht⟩:=ZiE c r k m ZO;exact⟨t++(if m=r then [] else Zd (c.get m)),by rw[Zas,ht,List.append_assoc]⟩
theorem Zk1(e:Ev){k:Nat}(h:k<5)(v:Nat):(evArr e).setIfInBounds (2+k) (I_ J_ (v:Int))=evArr { e with ctx:=e.ctx.set k v }:=by
 match k,h with
 | 0,_=>rfl
 | 1,_=>rfl
 | 2,_=>rfl
 | 3,_=>rfl
 | 4,_=>rfl
structure FS(w W:World)(pe pu pb:Nat)(a:Option Addr)(n cap:Nat)(l:List Nat)(p:List Nat)(g6 g7:Nat)(cur:Ev):Prop where
 rd:Rd W pe pu pb a n cap l p.length
 box:Blk W g7 89 (evArr cur)
 out:Blk W g6 89 (evArr Ev.zero)
 grown:w.grownBy W (some pu)
 plt:pu<w.heap.size
 lo6:w.heap.size<=g6
 lo7:w.heap.size<=g7
 ne:g6≠g7
 old:pe<w.heap.size/\pb<w.heap.size/\∀ad,a=some ad->ad.block<w.heap.size
section
variable {w W W':World}{pe pu pb:Nat}{a:Option Addr}{n cap:Nat}{l p q:List Nat}{g6 g7:Nat}{cur cur':Ev}
theorem FS.read(h:FS w W pe pu pb a n cap l p g6 g7 cur)(hg:W.grownBy W' (some pu))(hr:Rd W' pe pu pb a n cap l (p.length+q.length)):FS w W' pe pu pb a n cap l (p++q) g6 g7 cur :=
 ⟨by rw[ZI];exact hr,h.box.grown hg (by have:=h.plt;have:=h.lo7;intro e;injection e;omega),h.out.grown hg (by have:=h.plt;have:=h.lo6;intro e;injection e;omega),Zc4 h.grown hg,h.plt,h.lo6,h.lo7,h.ne,h.old⟩
theorem Rd.far{pos:Nat}(h:Rd W pe pu pb a n cap l pos){g j:Nat}(v:Value)(h1:pe≠g)(h2:pu≠g)(h3:pb≠g)(h4:∀ad,a=some ad->ad.block≠g):Rd (W.setCell ⟨g,j,none⟩ v) pe pu pb a n cap l pos:=by
 refine⟨h.err.far h1 v,h.used.far h2 v,h.buf.far h3 v,⟨h.bytes.1,h.bytes.2.1,?_⟩,h.apart,h.ne1,h.ne2,h.small⟩;rcases h.bytes.2.2 with h'|⟨b,off,e1,e4,e5,e6⟩
 ·exact .inl h'
 ·exact .inr ⟨b,off,e1,by simpa [World.setCell] using e4,e5,λi hi=>(World.cell?_of_block (w:=W) (Below.heap_setCell _ _ _ _ (h4 _ e1))).trans (e6 i hi)⟩
theorem FS.write(h:FS w W pe pu pb a n cap l p g6 g7 cur)(j:Nat)(v:Value)(he:(evArr cur).setIfInBounds j v=evArr cur'):FS w (W.setCell ⟨g7,j,none⟩ v) pe pu pb a n cap l p g6 g7 cur':=by
 have h7:=h.lo7;have hp:=h.plt;have ho:=h.old;refine⟨h.rd.far v ZO ZO ZO (λad e=>by have:=ho.2.2 ad e;omega),?_,h.out.far h.ne v,ZmD h.grown h7 v,hp,h.lo6,h7,h.ne,ho⟩;have hb:=h.box.aj j v;rw[he]at hb;exact hb
theorem FS.finish(h:FS w W pe pu pb a n cap l p g6 g7 cur):Blk (setAll W g6 0 (evArr cur).toList) g6 89 (evArr cur)/\Rd (setAll W g6 0 (evArr cur).toList) pe pu pb a n cap l p.length/\w.grownBy (setAll W g6 0 (evArr cur).toList) (some pu):=by
 have h6:=h.lo6;have hp:=h.plt;have hs:(evArr cur).size=(evArr Ev.zero).size:=ZM;have ho:=h.out;generalize evArr Ev.zero=z at ho hs;generalize evArr cur=A at hs ⊢;refine⟨Zal ho hs,?_,Znd h.grown h6 _ _⟩;have ho:=h.old;have far:=λ(k:Nat) (hk:k≠g6)=>Zai hk A.toList 0 W
 refine⟨(far pe ZO).trans h.rd.err,(far pu ZO).trans h.rd.used,(far pb ZO).trans h.rd.buf,⟨h.rd.bytes.1,h.rd.bytes.2.1,?_⟩,h.rd.apart,h.rd.ne1,h.rd.ne2,h.rd.small⟩;rcases h.rd.bytes.2.2 with h'|⟨b,off,e1,e4,e5,e6⟩
 ·exact .inl h'
 ·exact .inr ⟨b,off,e1,by rw[Za3];exact e4,e5,λi hi=>(World.cell?_of_block (w:=W) (far b (by have:=ho.2.2 _ e1;show b≠g6;simp at this;omega))).trans (e6 i hi)⟩
theorem FS.cells(h:FS w W pe pu pb a n cap l p g6 g7 cur):W.cell? ⟨g7,0,none⟩=some (I_ J_ cur.r)/\W.cell? ⟨g7,1,none⟩=some (I_ J_ cur.n)/\W.cell? ⟨g7,8,none⟩=some (I_ J_ cur.kind)/\g7<W.heap.size/\g6<W.heap.size/\(∀j,W.frozen? ⟨g7,j,none⟩=false) :=
 ⟨h.box.cell 0,h.box.cell 1,h.box.cell 8,h.box.lt,h.out.lt,h.box.frozen⟩
theorem Zgp{l p q m:List Nat}(h:l=p++(q++m)):l.drop p.length=q++m:=by rw[h];exact List.drop_left
theorem ZhU{l p m:List Nat}{c:Nat}(h:l=p++(c::m)):l[p.length]? = some c:=by rw[h];simp
end
theorem ZoW{pe pu pb:Nat}{l:List Nat}(e:Ev)(he:e.Ok)(rest:List Nat)(hl:l=evBytes e++rest)(hs:∀x∈l,x<256)(h:Rd w pe pu pb a n cap l 0):
  Calls prog 232 #[.func (.func 229) #[] #[P_ (some ⟨pe,0,none⟩),P_ (some ⟨pu,0,none⟩),P_ (some ⟨pb,0,none⟩)],.func (.func 230) #[] #[P_ (some ⟨pe,0,none⟩),P_ (some ⟨pb,0,none⟩),P_ (some ⟨pu,0,none⟩)],.func (.func 231) #[] #[P_ (some ⟨pe,0,none⟩),P_ (some ⟨pb,0,none⟩),P_ (some ⟨pu,0,none⟩)]] w
   λr w'=>r=R_ (Zaj e)/\Rd w' pe pu pb a n cap l (evBytes e).length/\w.grownBy w' (some pu):=by
 have vz:0<n:=by
  have:=h.bytes.len;rw[hl]at this;simp[evBytes]at this;omega
 obtain⟨b,off,ha,cW,_⟩:=h.bytes.pos vz;have jd:pe<w.heap.size/\pb<w.heap.size/\∀ad,a=some ad->ad.block<w.heap.size:=⟨h.err.lt,h.buf.lt,λad e=>by rw[ha]at e;injection e with e;subst e;exact cW⟩;have wB:pu<w.heap.size:=h.used.lt;have k1:=he.edit.kind1;have k5:=he.edit.kind5;have r5:=he.r;have n1:=he.n1;have n2:=he.n2;have h1:=he.h1;have h2:=he.h2;have HE:=ZH he;have m1:l=[]++(e.kind::(e.r::(Zd e.n++(Zas e.ctx e.r 5++(Zd e.height++(e.key.size::(bs e.key++(Zcf e++rest)))))))):=by rw[hl];simp[evBytes]
 have m2:l=[e.kind]++(e.r::(Zd e.n++(Zas e.ctx e.r 5++(Zd e.height++(e.key.size::(bs e.key++(Zcf e++rest))))))):=by rw[hl];simp[evBytes]
 have m3:l=[e.kind,e.r]++(Zd e.n++(Zas e.ctx e.r 5++(Zd e.height++(e.key.size::(bs e.key++(Zcf e++rest)))))):=by rw[hl];simp[evBytes]
 obtain⟨M1,M2,M3,HS,HL,tT,HA,A5⟩:=ZH8 m1 m2 m3 hs hl jd (h.below ((ZW w.heap.size w).alloc (ZL _) (C_ (evArr Ev.zero) 89))) (ZBn w 89 (evArr Ev.zero));have TX:Hid (w.grownBy (w.alloc (C_ (evArr Ev.zero) 89)) (some pu)):=ZH (ZiP (Zg1 w _) _);clear hl hs m1 m2 m3 he h jd ha cW;go_enter func232,ntmps232;go_wp2_with fail;refine(Ze6 HA.out 1 5 e.kind (ZhU M1.out) ZO ZO ZO).mono ?_;rintro r w1 ⟨rfl,eG,lm⟩;obtain⟨fO,s8⟩:=ZH2 eG lm;clear eG lm;go_wp2_with fail;refine(Ze6 fO.out 0 4 e.r (ZhU M2.out) ZO ZO ZO).mono ?_;rintro r w2 ⟨rfl,dV,eQ⟩;obtain⟨fP,oM⟩:=ZH2 dV eQ;clear dV eQ;go_wp2_with fail;refine(Zg9 fP.out HS.out 1 1048576 e.n _ (Zgp M3.out) ZO ZO ZO ZO).mono ?_;rintro r w3 ⟨rfl,fd,i5⟩;have ye:FS w (w3.alloc (C_ (evArr { Ev.zero with kind:=e.kind,r:=e.r,n:=e.n }) 89)) pe pu pb a n cap l ([e.kind,e.r]++Zd e.n) w.heap.size w3.heap.size { Ev.zero with kind:=e.kind,r:=e.r,n:=e.n }:=by
  have hg:=Zc4 (Zc4 (Zc4 TX.out s8.out) oM.out) i5;have sO:some w.heap.size≠some pu:=by intro e;injection e;omega
  refine⟨?_,ZBn _ _ _,(((A5.out.grown s8.out sO).grown oM.out sO).grown i5 sO).alloc _,ZiP hg _,wB,ZL _,hg.size,?_,tT.out⟩
  ·have:=fd.below ((ZW w3.heap.size w3).alloc (ZL _) (C_ (evArr { Ev.zero with kind:=e.kind,r:=e.r,n:=e.n }) 89));rw[ZI];exact this
  ·have h1:=s8.out.size;have h2:=oM.out.size;have h3:=i5.size;simp at h1;omega
 have jy:=ZH ye;clear fd i5 ye M1 M2 M3;go_wp2_with fail;have yP:=ZH (HE.out.ctx);generalize hG6:w.heap.size=g6 at *;generalize hG7:w3.heap.size=g7 at *;go_loopw [8,16] (λ_ i wr=>∃k:Nat,k<=5/\i=I_ J_ k/\Hid (FS w wr pe pu pb a n cap l ([e.kind,e.r]++Zd e.n++Zas e.ctx e.r k) g6 g7 { Ev.zero with kind:=e.kind,r:=e.r,n:=e.n,ctx:=Zgg e.ctx e.r k })) (λ_ i _=>5-(intOf i).toNat)
 case atStart =>
  have e0:[e.kind,e.r]++Zd e.n++Zas e.ctx e.r 0=[e.kind,e.r]++Zd e.n:=List.append_nil _;refine⟨0,ZO,rfl,?_⟩;rw[e0];exact jy
 case round =>
  skip
  obtain⟨k,hk,rfl,HF⟩:=hrel;obtain⟨c0,c1,c8,Jf,Jd,fz⟩:=HF.out.cells;have FZ:=ZH fz;clear fz;by_cases eM:k<5
  ·have hm:=yP.out k;rcases Nat.decEq k e.r with ig|ig
   focus
    have dR:((k:Int) != (e.r:Int))=true:=ZP;obtain⟨t,ht⟩:=ZiE e.ctx e.r (k+1) 5 ZO;have hd:l=([e.kind,e.r]++Zd e.n++Zas e.ctx e.r k)++(Zd (e.ctx.get k)++(t++(Zd e.height++(e.key.size::(bs e.key++(Zcf e++rest)))))):=by
     have e3:Zas e.ctx e.r (k+1)=Zas e.ctx e.r k++Zd (e.ctx.get k):=by simp only[Zas];rw[ZPn ig]
     rw[HL.out,evBytes,ht,e3];simp
    have HD:=ZH hd;clear ht hd;go_wp2_with fail;refine(Zg9 HF.out.rd HS.out 0 1048576 (e.ctx.get k) _ (Zgp HD.out) ZO ZO ZO ZO).mono ?_;rintro r w4 ⟨rfl,iO,dL⟩;have tn:=HF.out.read dL iO;have wo:=tn.write (2+k) (I_ J_ (e.ctx.get k)) (Zk1 _ eM _);have e1:[e.kind,e.r]++Zd e.n++Zas e.ctx e.r k++Zd (e.ctx.get k)=[e.kind,e.r]++Zd e.n++Zas e.ctx e.r (k+1):=by simp only[Zas];rw[ZPn ig];simp
    have e2:(Zgg e.ctx e.r k).set k (e.ctx.get k)=Zgg e.ctx e.r (k+1):=by simp only[Zgg];rw[ZPn ig]
    rw[e1]at wo;dsimp only at wo;rw[e2]at wo;obtain⟨_,_,_,Di,_,us⟩:=tn.cells;have QS:=us (2+k);obtain⟨u,hu⟩:∃u,w4.cell? ⟨g7,2+k,none⟩=some u:=by
     rw[tn.box.cell];exact⟨_,Array.getElem?_eq_getElem ZP⟩
    have nI:=ZH wo;clear iO dL tn wo e1 e2 us c0 c1 c8
   rotate_left
   focus
    have dR:((k:Int) != (e.r:Int))=false:=ZP;have ye:=HF.out;have e1:[e.kind,e.r]++Zd e.n++Zas e.ctx e.r k=[e.kind,e.r]++Zd e.n++Zas e.ctx e.r (k+1):=by simp only[Zas];rw[ZPp ig];simp
    have e2:Zgg e.ctx e.r k=Zgg e.ctx e.r (k+1):=by simp only[Zgg];rw[ZPp ig]
    rw[e1,e2]at ye;have nI:=ZH ye;clear ye e1 e2 ig
   rotate_left
   all_goals
    go_wp2
    go_roundw
    case rel=>exact⟨k+1,ZO,ZN,nI⟩
    case measure=>simp[intOf];omega
  ·obtain rfl:k=5:=ZO;have dk:=HE.out.own;have tn:=HF.out.write (2+e.r) (I_ J_ (e.ctx.get e.r)) (Zk1 _ r5 _);dsimp only at tn;rw[Zr2 e.ctx r5]at tn;have iJ:((e.ctx.get e.r:Nat):Int)=(e.n:Int)-1:=ZO;rw[iJ]at tn;have QS:=FZ.out (2+e.r);obtain⟨u,hu⟩:∃u,wr.cell? ⟨g7,2+e.r,none⟩=some u:=by
    rw[HF.out.box.cell];exact⟨_,Array.getElem?_eq_getElem ZP⟩
   obtain⟨nH,Ob⟩:=ZH2 tn iJ;clear tn dk iJ;have hd:l=([e.kind,e.r]++Zd e.n++Zas e.ctx e.r 5)++(Zd e.height++(e.key.size::(bs e.key++(Zcf e++rest)))):=by rw[HL.out,evBytes];simp
   have HD:=ZH hd;clear hd;go_wp2_with fail;refine(Zg9 nH.out.rd HS.out 1 16777216 e.height _ (Zgp HD.out) ZO ZO ZO ZO).mono ?_;rintro r w4 ⟨rfl,iO,dL⟩;have wo:=nH.out.read dL iO;obtain⟨_,_,_,Di,Je,us⟩:=wo.cells;have Va:=us 7;have U0:w4.cell? ⟨g7,7,none⟩=some (I_ J_ 0):=wo.box.cell 7;have rY:=ZH (wo.write (cur':={ e with key:=⟨#[]⟩,label:=0,value:=⟨#[]⟩ }) 7 (I_ J_ e.height) rfl);have hd:l=([e.kind,e.r]++Zd e.n++Zas e.ctx e.r 5++Zd e.height)++(e.key.size::(bs e.key++(Zcf e++rest))):=by rw[HL.out,evBytes];simp
   have jM:l=([e.kind,e.r]++Zd e.n++Zas e.ctx e.r 5++Zd e.height++[e.key.size])++(bs e.key++(Zcf e++rest)):=by rw[HL.out,evBytes];simp
   obtain⟨rW,rj⟩:=ZH2 hd jM;have rI:=HE.out.edit.key.1;have hks2:=HE.out.edit.key.2.1;have T9:=ZH (λW=>ZmJ e.key W HE.out.edit.key);clear iO dL wo us hd jM Ob c0 c1 c8 hu QS;go_wp2_with fail;refine(Ze6 rY.out.rd 1 8 e.key.size (ZhU rW.out) ZO ZO ZO).mono ?_;rintro r w5 ⟨rfl,eO,lq⟩;have Qa:=ZH (rY.out.read (q:=[e.key.size]) lq eO);clear eO lq Va U0;go_wp2_with fail;refine(ZrI Qa.out.rd e.key _ (Zgp rj.out) rI T9.out).mono ?_;rintro r w6 ⟨rfl,sQ,nP⟩;have Cg:=Qa.out.read (q:=bs e.key) nP (by rw[Zdx];exact sQ);obtain⟨_,_,_,At,As,FF⟩:=Cg.cells;have Vb:=FF 9;have U2:w6.cell? ⟨g7,9,none⟩=some (T_ ⟨#[]⟩):=Cg.box.cell 9;have U1:w6.cell? ⟨g7,8,none⟩=some (I_ J_ e.kind):=Cg.box.cell 8;have rB:=Cg.write (cur':={ e with label:=0,value:=⟨#[]⟩ }) 9 (T_ e.key) rfl;have EB:=ZH rB;clear sQ nP Cg rB FF;go_wp2_with fail;refine(ZmO e.kind _).mono ?_;rintro r w7 ⟨rfl,rfl⟩;clear U1 U2 Vb;rcases Nat.lt_or_ge 2 e.kind with cX|cX
   ·have Ca:decide (e.kind≠1/\e.kind≠2)=true:=ZP;rw[Ca];clear Ca;obtain⟨l1,l2,l3⟩:=HE.out.edit.long cX;have iM:l=([e.kind,e.r]++Zd e.n++Zas e.ctx e.r 5++Zd e.height++[e.key.size]++bs e.key)++(e.label::(e.value.size::(bs e.value++rest))):=by
     rw[HL.out,evBytes,Zcf,ZPp cX];simp
    have m7:l=([e.kind,e.r]++Zd e.n++Zas e.ctx e.r 5++Zd e.height++[e.key.size]++bs e.key++[e.label])++(e.value.size::(bs e.value++rest)):=by
     rw[HL.out,evBytes,Zcf,ZPp cX];simp
    have kg:l=([e.kind,e.r]++Zd e.n++Zas e.ctx e.r 5++Zd e.height++[e.key.size]++bs e.key++[e.label]++[e.value.size])++(bs e.value++rest):=by
     rw[HL.out,evBytes,Zcf,ZPp cX];simp
    obtain⟨jx,rk,tE⟩:=ZH3 iM m7 kg;clear iM m7 kg;have rB:=EB.out;generalize w6.setCell ⟨g7,9,none⟩ (T_ e.key)=wy at *;clear Jf Jd Di Je At As;have EB:=ZH rB;clear rB;have Bm:=ZH (λW=>Zp1 e.value W l2 l3);go_wp2_with fail;refine(Ze6 EB.out.rd 0 1 e.label (ZhU jx.out) ZO ZO ZO).mono ?_;rintro r iE ⟨rfl,nD,GF⟩;have yd:=EB.out.read (q:=[e.label]) GF nD;obtain⟨_,_,_,Jf,Jd,us⟩:=yd.cells;have Nv:=us 10;have Np:iE.cell? ⟨g7,10,none⟩=some (I_ J_ 0):=yd.box.cell 10;have Ez:=ZH (yd.write (cur':={ e with value:=⟨#[]⟩ }) 10 (I_ J_ e.label) rfl);clear nD GF yd us;go_wp2_with fail;refine(Ze6 Ez.out.rd 1 12 e.value.size (ZhU rk.out) ZO ZO ZO).mono ?_;rintro r Dl ⟨rfl,Ik,GG⟩;have EA:=ZH (Ez.out.read (q:=[e.value.size]) GG Ik);clear Ik GG Nv Np Jf Jd;go_wp2_with fail;refine(Zn7 EA.out.rd e.value _ (Zgp tE.out) l2 Bm.out).mono ?_;rintro r wI ⟨rfl,Il,GH⟩;have ow:=EA.out.read (q:=bs e.value) GH (by rw[Zdx];exact Il);have gv:[e.kind,e.r]++Zd e.n++Zas e.ctx e.r 5++Zd e.height++[e.key.size]++bs e.key++[e.label]++[e.value.size]++bs e.value=evBytes e:=by
     rw[evBytes,Zcf,ZPp cX];simp
    rw[gv]at ow;obtain⟨_,_,_,Jf,Jd,us⟩:=ow.cells;have fz11:=us 11;have cc11:wI.cell? ⟨g7,11,none⟩=some (T_ ⟨#[]⟩):=ow.box.cell 11;have Lh:=ZH (ow.write (cur':=e) 11 (T_ e.value) rfl);obtain⟨c0,c1,c2,c3,c4,c5,c6,c7,c8,c9,dg,_⟩:=ow.box.ag;obtain⟨d0,d1,d2,d3,d4,d5,d6,d7,d8,d9,zl,uo⟩:=ow.out.ag;have fo:=ow.out.frozen;have f0:=fo 0;have f1:=fo 1;have f2:=fo 2;have f3:=fo 3;have f4:=fo 4;have f5:=fo 5;have f6:=fo 6;have f7:=fo 7;have f8:=fo 8;have f9:=fo 9;have f10:=fo 10;have f11:=fo 11;have dR:=ow.ne;clear Il GH ow us fo gv;go_wp2_with fail;obtain⟨hb,hr,hg⟩:=Lh.out.finish;refine bodyPost_ret (w:=setAll (wI.setCell ⟨g7,11,none⟩ (T_ e.value)) g6 0 (evArr e).toList) (ZfW rfl rfl (run_loadVar_row _ _ _ _ _ _ _ hb underlying89 rfl ZK)) rfl ?_;exact⟨rfl,hr,hg⟩
   ·have Ca:decide (e.kind≠1/\e.kind≠2)=false:=ZP;rw[Ca];clear Ca;obtain⟨s1,s2⟩:=HE.out.edit.short cX;have li:({ e with label:=0,value:=⟨#[]⟩ }:Ev)=e:=by
     obtain⟨_,_,_,_,_,_,lb,vl⟩:=e;simp only at s1 s2;rw[s1,s2];rfl
    have rB:=EB.out;rw[li]at rB;have gv:[e.kind,e.r]++Zd e.n++Zas e.ctx e.r 5++Zd e.height++[e.key.size]++bs e.key=evBytes e:=by
     rw[evBytes,Zcf,ZPn ZO];simp
    rw[gv]at rB;obtain⟨c0,c1,c2,c3,c4,c5,c6,c7,c8,c9,dg,dh⟩:=rB.box.ag;obtain⟨d0,d1,d2,d3,d4,d5,d6,d7,d8,d9,zl,uo⟩:=rB.out.ag;have fo:=rB.out.frozen;have f0:=fo 0;have f1:=fo 1;have f2:=fo 2;have f3:=fo 3;have f4:=fo 4;have f5:=fo 5;have f6:=fo 6;have f7:=fo 7;have f8:=fo 8;have f9:=fo 9;have f10:=fo 10;have f11:=fo 11;have dR:=rB.ne;have Lg:=ZH rB;generalize w6.setCell ⟨g7,9,none⟩ (T_ e.key)=wx at *;clear rB fo gv li s1 s2 Jf Jd Di Je At As;go_wp2_with fail;obtain⟨hb,hr,hg⟩:=Lg.out.finish;refine bodyPost_ret (w:=setAll wx g6 0 (evArr e).toList) (ZfW rfl rfl (run_loadVar_row _ _ _ _ _ _ _ hb underlying89 rfl ZK)) rfl ?_;exact⟨rfl,hr,hg⟩
end
theorem ZkK{y1 t2 y2 t3 y3:Nat}(h:fn.results=#[.cell t1 y1,.cell t2 y2,.cell t3 y3]){a1 a2 a3:Addr}
  (p1:tmps.getD t1 undef=P_ (some a1)) (p2:tmps.getD t2 undef=P_ (some a2)) (p3:tmps.getD t3 undef=P_ (some a3))
  (l1:(loadVar y1 a1).run P w=.ok v1 w) (l2:(loadVar y2 a2).run P w=.ok v2 w) (l3:(loadVar y3 a3).run P w=.ok v3 w):(results fn tmps).run P w=.ok (.tuple #[v1,v2,v3]) w:=by
 have q1:tmps[t1]?.getD undef=P_ (some a1):=by simpa using p1
 have q2:tmps[t2]?.getD undef=P_ (some a2):=by simpa using p2
 have q3:tmps[t3]?.getD undef=P_ (some a3):=by simpa using p3
 simp[results,h,q1,q2,q3,asAddr,l1,l2,l3]
theorem Zeu{ty:TypeId}{k:IntKind}(h:Blk w g t #[v])(hu:P.underlying ty=some (.int k)):(loadVar ty ⟨g,0,none⟩).run P w=.ok v w:=by
 have hc:=h.cell 0;simp only[ZD,ZE]at hc;have CJ:=run_underlying (w:=w) hu;simp[loadVar,isAgg,CJ,load,hc,Sem.run,Result.andThen]
abbrev Zk:Array Value:=#[I_ J_ 0,I_ J_ 0,I_ J_ 0,I_ J_ 0,I_ J_ 0,I_ J_ 0,I_ J_ 0,I_ J_ 0,I_ J_ 0,T_ ⟨#[]⟩,I_ J_ 0,T_ ⟨#[]⟩]
structure TkS(w W:World)(e:Ev):Prop where
 box:Blk W (w.heap.size+1) 89 (evArr e)
 used:Blk W (w.heap.size+2) 3 #[I_ J_ ((evBytes e).length:Int)]
 err:Blk W (w.heap.size+3) 28 #[I_ J_ 0]
 below:L_ w W
theorem TkS.drew{w W:World}{e:Ev}(h:TkS w W e):TkS w W.drew e:=⟨h.box,h.used,h.err,h.below.drew⟩
theorem TkS.bm(h:TkS w W e):TkS w (setAll W (w.heap.size+1) 0 (evArr e).toList) e:=by
 have hb:=Zal (vs:=evArr e) h.box rfl;obtain⟨h1,h2,h3,h4⟩:=h;generalize (evArr e).toList=vs at hb ⊢;have far:=λ(k:Nat) (hk:k≠w.heap.size+1)=>Zai hk vs 0 W
 obtain⟨q1,q2,q3⟩:=ZcB (g:=w.heap.size+1) vs 0 W;exact⟨hb,(far _ ZO).trans h2,(far _ ZO).trans h3,q1.trans h4.os,q2.trans h4.tape,q3.trans h4.output,by rw[Za3];exact h4.size,λk hk=>(far k ZO).trans (h4.block k hk)⟩
theorem TkS.bS(h:TkS w W e):TkS w (W.setCell ⟨w.heap.size+2,0,none⟩ (I_ J_ ((evBytes e).length:Int))) e :=
 ⟨h.box.far ZM _,h.used.bC _,h.err.far ZM _,h.below.setCell ZM _⟩
theorem TkS.bX(h:TkS w W e):TkS w (W.setCell ⟨w.heap.size+3,0,none⟩ (I_ J_ 0)) e :=
 ⟨h.box.far ZM _,h.used.far ZM _,h.err.bC _,h.below.setCell ZM _⟩
theorem ZjM{l:List Nat}(h:Bytes w a n cap l)(hs:∀x∈l,x<256)(hn:n<=1000000)(e:Ev)(he:e.Ok)(rest:List Nat)(hl:l=evBytes e++rest):
  Calls prog 203 #[S_ a n cap] w λr w'=>r=R_ (.tuple #[Zaj e,I_ J_ (evBytes e).length,I_ J_ 0])/\Below w.heap.size w w':=by
 have vz:0<n:=by
  have:=h.len;rw[hl]at this;simp[evBytes]at this;omega
 obtain⟨b,off,ha,cW,_⟩:=h.pos vz;have b1:Below w.heap.size w ((((w.alloc (C_ #[S_ a n cap] 106)).alloc (C_ Zk 89)).alloc (C_ #[I_ J_ 0] 3)).alloc (C_ #[I_ J_ 0] 28)):=(((((ZW w.heap.size w).alloc (ZL _) _).alloc ZM _).alloc ZP _).alloc ZP _);have fu:Rd ((((w.alloc (C_ #[S_ a n cap] 106)).alloc (C_ Zk 89)).alloc (C_ #[I_ J_ 0] 3)).alloc (C_ #[I_ J_ 0] 28)) (w.heap.size+3) (w.heap.size+2) w.heap.size a n cap l 0:=by
  have s1:(w.alloc (C_ #[S_ a n cap] 106)).heap.size=w.heap.size+1:=ZM;have s2:((w.alloc (C_ #[S_ a n cap] 106)).alloc (C_ Zk 89)).heap.size=w.heap.size+2:=ZM;have s3:(((w.alloc (C_ #[S_ a n cap] 106)).alloc (C_ Zk 89)).alloc (C_ #[I_ J_ 0] 3)).heap.size=w.heap.size+3:=ZM;refine⟨?_,?_,(((ZBn w _ _).alloc _).alloc _).alloc _,h.kept b1 (ZL _),λad e=>?_,ZO,ZO,hn⟩
  ·have:=ZBn (((w.alloc (C_ #[S_ a n cap] 106)).alloc (C_ Zk 89)).alloc (C_ #[I_ J_ 0] 3)) 28 #[I_ J_ 0];rw[s3]at this;exact this
  ·have:=(ZBn ((w.alloc (C_ #[S_ a n cap] 106)).alloc (C_ Zk 89)) 3 #[I_ J_ 0]).alloc (C_ #[I_ J_ 0] 28);rw[s2]at this;exact this
  ·rw[ha]at e;injection e with e;subst e;show b≠w.heap.size+2;omega
 have eS:Blk ((((w.alloc (C_ #[S_ a n cap] 106)).alloc (C_ Zk 89)).alloc (C_ #[I_ J_ 0] 3)).alloc (C_ #[I_ J_ 0] 28)) (w.heap.size+1) 89 Zk:=by
  have:=((ZBn (w.alloc (C_ #[S_ a n cap] 106)) 89 Zk).alloc (C_ #[I_ J_ 0] 3)).alloc (C_ #[I_ J_ 0] 28);have s1:(w.alloc (C_ #[S_ a n cap] 106)).heap.size=w.heap.size+1:=ZM;rw[s1]at this;exact this
 have ua:Hid (((((w.alloc (C_ #[S_ a n cap] 106)).alloc (C_ Zk 89)).alloc (C_ #[I_ J_ 0] 3)).alloc (C_ #[I_ J_ 0] 28)).heap.size=w.heap.size+4):=ZH (ZM);obtain⟨iT,lc,dj,HL,HS,HE⟩:=ZH6 fu eS b1 hl hs he;clear fu eS b1 hl hs he h ha;go_enter func203,ntmps203;go_wp2_with fail;generalize (((w.alloc (C_ #[S_ a n cap] 106)).alloc (C_ Zk 89)).alloc (C_ #[I_ J_ 0] 3)).alloc (C_ #[I_ J_ 0] 28)=w1 at *;simp only[Nat.add_assoc,Nat.reduceAdd];refine(ZoW e HE.out rest HL.out HS.out iT.out).mono ?_;rintro r w2 ⟨rfl,yv,eQ⟩;have sJ:some (w.heap.size+1)≠some (w.heap.size+2):=by intro e;injection e;omega
 have uK:=lc.out.grown eQ sJ;obtain⟨c0,c1,c2,c3,c4,c5,c6,c7,c8,c9,dg,dh⟩:=uK.ag;have fo:=uK.frozen;have f0:=fo 0;have f1:=fo 1;have f2:=fo 2;have f3:=fo 3;have f4:=fo 4;have f5:=fo 5;have f6:=fo 6;have f7:=fo 7;have f8:=fo 8;have f9:=fo 9;have f10:=fo 10;have f11:=fo 11;obtain⟨e1,e2,e3⟩:=yv.err.one;obtain⟨u1,u2,u3⟩:=yv.used.one;have Cy:=uK.lt;obtain⟨E4,oM,KS⟩:=ZH3 yv eQ uK;clear yv eQ uK fo sJ;go_wp2_with fail;change Code.wp _ _ _ _ (setAll w2 (w.heap.size+1) 0 (evArr e).toList);have cG:=Zal (vs:=evArr e) KS.out ZM;have far:=λ(k:Nat) (hk:k≠w.heap.size+1)=>Zai hk (evArr e).toList 0 w2
 have nO:Blk (setAll w2 (w.heap.size+1) 0 (evArr e).toList) (w.heap.size+3) 28 #[I_ J_ 0]:=(far _ ZO).trans E4.out.err;have de:Blk (setAll w2 (w.heap.size+1) 0 (evArr e).toList) (w.heap.size+2) 3 #[I_ J_ ((evBytes e).length:Int)]:=(far _ ZO).trans E4.out.used;have gE:Below w.heap.size w (setAll w2 (w.heap.size+1) 0 (evArr e).toList):=by
  have h1:=dj.out.grown oM.out (by rw[ua.out];omega) (λk hk=>by injection hk with hk;omega);obtain⟨q1,q2,q3⟩:=ZcB (g:=w.heap.size+1) (evArr e).toList 0 w2;exact⟨q1.trans h1.os,q2.trans h1.tape,q3.trans h1.output,by rw[Za3];exact h1.size,λk hk=>(far k ZO).trans (h1.block k hk)⟩
 generalize setAll w2 (w.heap.size+1) 0 (evArr e).toList=w3 at *;clear e1 e2 e3 u1 u2 u3 c0 c1 c2 c3 c4 c5 c6 c7 c8 c9 dg dh f0 f1 f2 f3 f4 f5 f6 f7 f8 f9 f10 f11 far;have oA:=cG.lt;have i8:Hid (TkS w w3 e):=⟨cG,de,nO,gE⟩;clear cG nO de gE;refine ZSh (λw'=>TkS w w' e) [(0,0),(1,0),(2,1),(3,1),(4,1)] (i8.out.drew) λcu=>?_
 repeat((first|refine ZSa ?_|refine ZSb ?_|(refine Zf rfl (by rfl) (λw' cL=>by obtain⟨c0,c1,c2,c3,c4,c5,c6,c7,c8,c9,dg,dh⟩:=cL.box.ag;obtain⟨u1,u2,u3⟩:=cL.used.one;go_simp;with_reducible rfl) ?_));simp only[Act.put,ZA,ZB,ZC])
 clear cu;obtain⟨c0,c1,c2,c3,c4,c5,c6,c7,c8,c9,dg,dh⟩:=i8.out.box.ag;have fo:=i8.out.box.frozen;have f0:=fo 0;have f1:=fo 1;have f2:=fo 2;have f3:=fo 3;have f4:=fo 4;have f5:=fo 5;have f6:=fo 6;have f7:=fo 7;have f8:=fo 8;have f9:=fo 9;have f10:=fo 10;have f11:=fo 11;clear fo;refine ZSd λK hK=>?_
 go_simp;refine hK.out (λw'=>TkS w w' e) _ (setAll w3 (w.heap.size+1) 0 (evArr e).toList).drew (λ_ h=>h) i8.out.bm.drew (λcu=>?_);clear hK K c0 c1 c2 c3 c4 c5 c6 c7 c8 c9 dg dh f0 f1 f2 f3 f4 f5 f6 f7 f8 f9 f10 f11;generalize (setAll w3 (w.heap.size+1) 0 (evArr e).toList).drew=w4 at *;obtain⟨u1,u2,u3⟩:=cu.used.one;obtain⟨e1,e2,e3⟩:=cu.err.one;have zd:=ZH cu;clear cu;refine ZSd λK hK=>?_
 go_simp;refine hK.out (λw'=>TkS w w' e) _ _ (λ_ h=>h) zd.out.bS (λcu=>?_);clear hK K;have Fb:=ZH cu;clear cu;refine ZSd λK hK=>?_
 go_simp;refine hK.out (λw'=>TkS w w' e) _ _ (λ_ h=>h) Fb.out.bX (λcu=>?_);clear hK K;have ze:=ZH cu;clear cu;refine ZSf ?_;go_wp2_with fail;refine bodyPost_ret (ZkK rfl rfl rfl rfl (run_loadVar_row _ _ _ _ _ _ _ ze.out.box underlying89 rfl ZK) (Zeu ze.out.used underlying3) (Zeu ze.out.err underlying28)) rfl ?_;exact⟨rfl,ze.out.below⟩
theorem Zaf{B:Nat}(h:Kept B w W)(hg:B<=g)(i:Nat)(vs:List Value):Kept B w (setAll W g i vs):=by
 obtain⟨h1,h2,h3⟩:=ZcB (g:=g) vs i W;exact⟨⟨h1.trans h.below.os,h2.trans h.below.tape,h3.trans h.below.output,by rw[Za3];exact h.below.size,λk hk=>(Zai ZO vs i W).trans (h.below.block k hk)⟩,by rw[Za3];exact h.le⟩
theorem Zq{y1 t2:Nat}(h:fn.results=#[.cell t1 y1,.tmp t2]){a1:Addr}
  (p1:tmps.getD t1 undef=P_ (some a1)) (p2:tmps.getD t2 undef=v2) (l1:(loadVar y1 a1).run P w=.ok v1 w):(results fn tmps).run P w=.ok (.tuple #[v1,v2]) w:=by
 have q1:tmps[t1]?.getD undef=P_ (some a1):=by simpa using p1
 have q2:tmps[t2]?.getD undef=v2:=by simpa using p2
 simp[results,h,q1,q2,asAddr,l1]
def Clk.has(c:Clk)(r n:Nat):Bool:=decide (1<=n/\n<=c.get r)
abbrev clkArr(c:Clk):Array Value:=#[I_ J_ c.c0,I_ J_ c.c1,I_ J_ c.c2,I_ J_ c.c3,I_ J_ c.c4]
theorem Zeo(c:Clk)(h:i<5):(clkArr c)[i]? = some (I_ J_ (c.get i)):=by
 match i,h with
 | 0,_=>rfl
 | 1,_=>rfl
 | 2,_=>rfl
 | 3,_=>rfl
 | 4,_=>rfl
theorem Zfg(c:Clk)(h:i<5)(v:Nat):(clkArr c).setIfInBounds i (I_ J_ v)=clkArr (c.set i v):=by
 match i,h with
 | 0,_=>rfl
 | 1,_=>rfl
 | 2,_=>rfl
 | 3,_=>rfl
 | 4,_=>rfl
theorem Zol(w:World)(c:Clk)(h:i<5):(w.alloc (C_ (clkArr c) 44)).cell? ⟨w.heap.size,i,none⟩=some (I_ J_ (c.get i)):=by
 rw[(ZBn w _ _).cell];exact Zeo c h
theorem Zku(c:Clk)(r n:Nat)(w:World)(hr:r<5):Calls prog 114 #[Zbh c,I_ J_ r,I_ J_ n] w (Zx (B_ (c.has r n)) w):=by
 have cB:=Zol w c hr;have HB:=ZH (((ZKr w).alloc (C_ (clkArr c) 44)).below);rcases Nat.lt_or_ge n 1 with h0|h0
 ·have e:c.has r n=false:=decide_eq_false ZO;rw[e];clear e;go_enter func114,ntmps114;go_wp2
  go_ret;exact⟨rfl,HB.out⟩
 ·rcases Nat.lt_or_ge (c.get r) n with h1|h1
  ·have e:c.has r n=false:=decide_eq_false ZO;rw[e];clear e;have hd:decide (n<=c.get r)=false:=ZP;go_enter func114,ntmps114;go_wp2
   go_ret;exact⟨rfl,HB.out⟩
  ·have e:c.has r n=true:=decide_eq_true ⟨h0,h1⟩;rw[e];clear e;have hd:decide (n<=c.get r)=true:=ZP;go_enter func114,ntmps114;go_wp2
   go_ret;exact⟨rfl,HB.out⟩
def Clk.le(a b:Clk):Bool:=decide (a.c0<=b.c0/\a.c1<=b.c1/\a.c2<=b.c2/\a.c3<=b.c3/\a.c4<=b.c4)
theorem Clk.le_iff{a b:Clk}:a.le b=true↔∀i,i<5->a.get i<=b.get i:=by
 unfold Clk.le;rw[decide_eq_true_iff];constructor
 ·rintro⟨h0,h1,h2,h3,h4⟩ i hi
  match i,hi with
  | 0,_=>exact h0
  | 1,_=>exact h1
  | 2,_=>exact h2
  | 3,_=>exact h3
  | 4,_=>exact h4
 ·intro h;exact⟨h 0 ZO,h 1 ZO,h 2 ZO,h 3 ZO,h 4 ZO⟩
theorem Blk.clk(h:Blk w g t (clkArr c))(hi:i<5):w.cell? ⟨g,i,none⟩=some (I_ J_ (c.get i)):=by
 rw[h.cell];exact Zeo c hi
theorem Blk.aG{v0 v4:Value}(h:Blk w g t #[v0,v1,v2,v3,v4]):w.cell? ⟨g,0,none⟩=some v0/\w.cell? ⟨g,1,none⟩=some v1/\w.cell? ⟨g,2,none⟩=some v2/\w.cell? ⟨g,3,none⟩=some v3/\w.cell? ⟨g,4,none⟩=some v4 :=
 ⟨h.cell 0,h.cell 1,h.cell 2,h.cell 3,h.cell 4⟩
theorem Zpj(a b:Clk)(w:World):Calls prog 222 #[Zbh a,Zbh b] w (Zx (B_ (a.le b)) w):=by
 have HA:=ZH ((ZBn w 44 (clkArr a)).alloc (C_ (clkArr b) 44));have hB:=ZBn (w.alloc (C_ (clkArr a) 44)) 44 (clkArr b);have HK:=ZH (((ZKr w).alloc (C_ (clkArr a) 44)).alloc (C_ (clkArr b) 44));have e1:(w.alloc (C_ (clkArr a) 44)).heap.size=w.heap.size+1:=ZM;rw[e1]at hB;have HB:=ZH hB;clear hB e1;obtain⟨R,hR⟩:∃R,R=a.le b:=⟨_,rfl⟩;rw[←hR];have HR:=ZH hR;clear hR;go_enter func222,ntmps222;go_wp2_with fail;go_loopw [5,6] (λ_ i wr=>∃k:Nat,k<=5/\i=I_ J_ k/\Hid (∀j,j<k->a.get j<=b.get j)/\Hid (Blk wr w.heap.size 44 (clkArr a))/\Hid (Blk wr (w.heap.size+1) 44 (clkArr b))/\Hid (Kept w.heap.size w wr)) (λ_ i _=>5-(intOf i).toNat)
 case atStart=>exact⟨0,ZO,rfl,ZH (λj hj=>ZO),HA,HB,HK⟩
 case round =>
  skip
  obtain⟨k,hk,rfl,HL,HA,HB,HK⟩:=hrel;by_cases eM:k<5
  ·have ca:=HA.out.clk eM;have cb:=HB.out.clk eM;have k0:(0:Int)<=(k:Int):=ZO;have k5:(k:Int)<5:=ZO;rcases Nat.lt_or_ge (b.get k) (a.get k) with zJ|eE
   ·have hd:decide ((a.get k:Int)>(b.get k:Int))=true:=ZP;have jM:decide (b.get k<a.get k)=true:=ZP;have hR:R=false:=by
     rw[HR.out];rcases h:a.le b with _|_
     ·rfl
     ·have:=Clk.le_iff.1 h k eM;omega
    subst hR;go_wp2_with fail;go_quiet (fail)
    go_wp2
    go_ret;exact⟨rfl,(HK.out.drewN _).below⟩
   ·have hd:decide ((a.get k:Int)>(b.get k:Int))=false:=ZP;have jM:decide (b.get k<a.get k)=false:=ZP;have hn:∀j,j<k+1->a.get j<=b.get j:=λj hj=>by
     rcases Nat.lt_or_ge j k with h|h
     ·exact HL.out j h
     ·obtain rfl:j=k:=ZO;exact eE
    have HN:=ZH hn;clear hn;go_wp2_with fail;go_quiet (fail)
    go_wp2
    go_roundw
    case rel=>exact⟨k+1,ZO,ZN,HN,HA.out.drewN _,HB.out.drewN _,HK.out.drewN _⟩
    case measure=>simp[intOf];omega
  ·obtain rfl:k=5:=ZO;have hR:R=true:=by
    rw[HR.out];exact Clk.le_iff.2 HL.out
   subst hR;go_wp2
   go_ret;exact⟨rfl,HK.out.below⟩
theorem Zag(w:World)(o:Obj)(t:TypeId)(cs:Array Value):Blk ((w.alloc o).alloc (C_ cs t)) (w.heap.size+1) t cs:=by
 have h:=ZBn (w.alloc o) t cs;have e:(w.alloc o).heap.size=w.heap.size+1:=ZM;rw[e]at h;exact h
theorem ZbT(w:World)(o o':Obj):L_ w ((w.alloc o).alloc o'):=(((ZW w.heap.size w).alloc (ZL _) _).alloc ZM _)
theorem ZmV(c:Clk)(r:Nat)(w:World)(hr:r<5)(hm:c.get r<1048576):Calls prog 66 #[Zbh c,I_ J_ r] w (Zx (.tuple #[Zbh (c.set r (c.get r+1)),I_ J_ 0]) w):=by
 have hd:decide ((c.get r:Int)>=1048576)=false:=ZP;have cY:c.get r<=2000000:=ZO;clear hm;obtain⟨a0,a1,a2,a3,a4⟩:=c;rcases(by omega:r=0∨r=1∨r=2∨r=3∨r=4) with rfl|rfl|rfl|rfl|rfl
 all_goals
  simp only[Clk.get,Clk.set]at cY hd ⊢;push_cast;go_enter func66,ntmps66;go_wp2_with fail;refine bodyPost_ret (Zq rfl rfl rfl (run_loadVar_row _ _ _ _ _ _ _ (Zag _ _ _ _) underlying44 rfl ZK)) rfl ?_;exact⟨rfl,ZbT _ _ _⟩
theorem Clk.aq(c:Clk)(h:i<5)(v:Nat):(c.set i v).get i=v:=by
 match i,h with
 | 0,_=>rfl
 | 1,_=>rfl
 | 2,_=>rfl
 | 3,_=>rfl
 | 4,_=>rfl
theorem Clk.ao(c:Clk){j:Nat}(h:i≠j)(v:Nat):(c.set i v).get j=c.get j:=by
 match i,j,h with
 | 0,0,h=>exact absurd rfl h
 | 0,1,_=>rfl
 | 0,2,_=>rfl
 | 0,3,_=>rfl
 | 0,4,_=>rfl
 | 0,_+5,_=>rfl
 | 1,0,_=>rfl
 | 1,1,h=>exact absurd rfl h
 | 1,2,_=>rfl
 | 1,3,_=>rfl
 | 1,4,_=>rfl
 | 1,_+5,_=>rfl
 | 2,0,_=>rfl
 | 2,1,_=>rfl
 | 2,2,h=>exact absurd rfl h
 | 2,3,_=>rfl
 | 2,4,_=>rfl
 | 2,_+5,_=>rfl
 | 3,0,_=>rfl
 | 3,1,_=>rfl
 | 3,2,_=>rfl
 | 3,3,h=>exact absurd rfl h
 | 3,4,_=>rfl
 | 3,_+5,_=>rfl
 | 4,0,_=>rfl
 | 4,1,_=>rfl
 | 4,2,_=>rfl
 | 4,3,_=>rfl
 | 4,4,h=>exact absurd rfl h
 | 4,_+5,_=>rfl
 |_+5,_,_=>rfl
def Ze3(a b:Clk):Nat->Clk
 | 0=>a
 |k+1=>(Ze3 a b k).set k (max (a.get k) (b.get k))
abbrev Clk.join(a b:Clk):Clk:=Ze3 a b 5
theorem ZjR(a b:Clk){j:Nat}:∀k,k<=j->(Ze3 a b k).get j=a.get j
 | 0,_=>rfl
 |k+1,h=>by rw[Ze3,Clk.ao _ ZO,ZjR a b k ZO]
theorem Zsf(a b:Clk)(h:i<5):(a.join b).get i=max (a.get i) (b.get i):=by
 match i,h with
 | 0,_=>rfl
 | 1,_=>rfl
 | 2,_=>rfl
 | 3,_=>rfl
 | 4,_=>rfl
theorem Z6{y1:Nat}(h:fn.results=#[.cell t1 y1]){a1:Addr}
  (p1:tmps.getD t1 undef=P_ (some a1)) (l1:(loadVar y1 a1).run P w=.ok v1 w):(results fn tmps).run P w=.ok v1 w:=by
 have q1:tmps[t1]?.getD undef=P_ (some a1):=by simpa using p1
 simp[results,h,q1,asAddr,l1]
theorem Zse(a b:Clk)(w:World)(ha:∀i,a.get i<=2000000)(hb:∀i,b.get i<=2000000):Calls prog 135 #[Zbh a,Zbh b] w (Zx (Zbh (a.join b)) w):=by
 obtain⟨HA,HB⟩:=ZH2 (((ZBn w 44 (clkArr a)).alloc (C_ (clkArr b) 44)).alloc (C_ #[I_ J_ 0,I_ J_ 0,I_ J_ 0,I_ J_ 0,I_ J_ 0] 44)) ((Zag w (C_ (clkArr a) 44) 44 (clkArr b)).alloc (C_ #[I_ J_ 0,I_ J_ 0,I_ J_ 0,I_ J_ 0,I_ J_ 0] 44));have hC:=Zag (w.alloc (C_ (clkArr a) 44)) (C_ (clkArr b) 44) 44 #[I_ J_ 0,I_ J_ 0,I_ J_ 0,I_ J_ 0,I_ J_ 0];have e1:(w.alloc (C_ (clkArr a) 44)).heap.size=w.heap.size+1:=ZM;rw[e1]at hC;obtain⟨HK,HC,Ha,Hb⟩:=ZH4 ((((ZKr w).alloc (C_ (clkArr a) 44)).alloc (C_ (clkArr b) 44)).alloc (C_ #[I_ J_ 0,I_ J_ 0,I_ J_ 0,I_ J_ 0,I_ J_ 0] 44)) hC ha hb;clear hC e1 ha hb;go_enter func135,ntmps135;go_wp2_with fail;go_loopw [5,6] (λ_ i wr=>∃k:Nat,k<=5/\i=I_ J_ k/\Hid (Blk wr w.heap.size 44 (clkArr (Ze3 a b k)))/\Hid (Blk wr (w.heap.size+1) 44 (clkArr b))/\Hid (Blk wr (w.heap.size+1+1) 44 #[I_ J_ 0,I_ J_ 0,I_ J_ 0,I_ J_ 0,I_ J_ 0])/\Hid (Kept w.heap.size w wr)) (λ_ i _=>5-(intOf i).toNat)
 case atStart=>exact⟨0,ZO,rfl,HA,HB,HC,HK⟩
 case round =>
  skip
  obtain⟨k,hk,rfl,HA,HB,HC,HK⟩:=hrel;by_cases eM:k<5
  ·have ca:=HA.out.clk eM;rw[ZjR a b k (ZL _)]at ca;have cb:=HB.out.clk eM;have fr:=HA.out.frozen k;have k0:(0:Int)<=(k:Int):=ZO;have k5:(k:Int)<5:=ZO;have h1:=Ha.out k;have h2:=Hb.out k;have D4:(if a.get k<b.get k then(b.get k:Int) else(a.get k:Int))=((max (a.get k) (b.get k):Nat):Int):=by split <;> omega
   have hmx2:max (a.get k:Int) (b.get k:Int)=((max (a.get k) (b.get k):Nat):Int):=ZO;have rv:=(HA.out.aj k (I_ J_ ((max (a.get k) (b.get k):Nat):Int)));rw[Zfg _ eM]at rv;have dx:=HB.out.far (p:=⟨w.heap.size,k,none⟩) ZM (I_ J_ ((max (a.get k) (b.get k):Nat):Int));have BK:=HC.out.far (p:=⟨w.heap.size,k,none⟩) (by show w.heap.size+1+1≠w.heap.size;omega) (I_ J_ ((max (a.get k) (b.get k):Nat):Int));obtain⟨cO,qo,df,wU⟩:=ZH4 (HK.out.setCell (p:=⟨w.heap.size,k,none⟩) (ZL _) (I_ J_ ((max (a.get k) (b.get k):Nat):Int))) rv dx BK;clear rv dx BK;go_wp2_with fail;go_still_tail 9,ZK
   change wpList _ _ _ _ _ wr.drew
   go_wp2
   go_roundw
   case rel=>exact⟨k+1,ZO,ZN,qo,df,wU,cO.out.drew⟩
   case measure=>simp[intOf];omega
  ·obtain rfl:k=5:=ZO;obtain⟨c0,c1,c2,c3,c4⟩:=HA.out.aG;have fo:=HC.out.frozen;have f0:=fo 0;have f1:=fo 1;have f2:=fo 2;have f3:=fo 3;have f4:=fo 4;obtain⟨d0,d1,d2,d3,d4⟩:=HC.out.aG;clear fo;go_wp2_with fail;have dz:=Zal (vs:=clkArr (Ze3 a b 5)) HC.out rfl;have m8:=Zaf HK.out (g:=w.heap.size+1+1) ZO 0 (clkArr (Ze3 a b 5)).toList;refine bodyPost_end (w:=setAll wr (w.heap.size+1+1) 0 (clkArr (Ze3 a b 5)).toList) (Z6 rfl rfl (run_loadVar_row _ _ _ _ _ _ _ dz underlying44 rfl ZK)) rfl ?_;exact⟨rfl,m8.below⟩
section
def evCells(es:List Ev):List Value:=es.flatMap λe=>(evArr e).toList
theorem Zaw:∀es:List Ev,(evCells es).length=es.length*12
 | []=>rfl
 |e::es=>by
  have:=Zaw es;simp only[evCells,List.flatMap_cons,ZI,List.length_cons]at this ⊢;rw[this];simp;omega
theorem ZbE(a b:List Ev):evCells (a++b)=evCells a++evCells b:=by simp[evCells]
theorem ZbC(es:List Ev):∀u∈evCells es,u.oneCell'=true:=by
 intro u hu;simp only[evCells,List.mem_flatMap]at hu;obtain⟨e,_,he⟩:=hu;simp at he;rcases he with rfl|rfl|rfl|rfl|rfl|rfl|rfl|rfl|rfl|rfl|rfl|rfl <;> rfl
theorem Zgf:∀(es:List Ev) (i j:Nat) (e:Ev),es[i]? = some e->j<12->(evCells es)[i*12+j]? = (evArr e)[j]?
 | [],i,j,e,h,_=>by simp at h
 |x::es,0,j,e,h,hj=>by
  simp at h;subst h;simp only[evCells,List.flatMap_cons,Nat.zero_mul,Nat.zero_add];rw[List.getElem?_append_left ZP];simp
 |x::es,i+1,j,e,h,hj=>by
  have ih:=Zgf es i j e (by simpa using h) hj;rw[←ih];simp only[evCells,List.flatMap_cons];rw[List.getElem?_append_right ZP];congr 1;simp;omega
def EvSl(w:World)(a:Option Addr)(n cap:Nat)(es:List Ev):Prop :=
 n<=cap/\cap<=maxLen/\es.length=n/\(n=0∨∃b off,a=some ⟨b,off,none⟩/\b<w.heap.size/\∀i e,es[i]? = some e->∀j,j<12->w.cell? ⟨b,off+i*12+j,none⟩=(evArr e)[j]?)
section
variable {w w':World}{a:Option Addr}{n cap:Nat}{es:List Ev}
theorem EvSl.nil(w:World):EvSl w none 0 0 []:=⟨ZL _,by unfold maxLen;omega,rfl,.inl rfl⟩
theorem EvSl.of_same(h:EvSl w a n cap es)(hk:∀ad,a=some ad->ad.block<w.heap.size->w'.heap[ad.block]? = w.heap[ad.block]?)(hs:w.heap.size<=w'.heap.size):EvSl w' a n cap es:=by
 refine⟨h.1,h.2.1,h.2.2.1,?_⟩;rcases h.2.2.2 with h'|⟨b,off,h1,h2,h3⟩
 ·exact .inl h'
 ·exact .inr ⟨b,off,h1,ZO,λi e he j hj=>(World.cell?_of_block (w:=w) (a:=⟨b,off+i*12+j,none⟩) (hk ⟨b,off,none⟩ h1 h2)).trans (h3 i e he j hj)⟩
theorem EvSl.below(h:EvSl w a n cap es)(hb:L_ w w'):EvSl w' a n cap es:=h.of_same (λ_ _ hl=>hb.block _ hl) hb.size
theorem EvSl.at_(h:EvSl w a n cap es)(he:es[i]? = some e):∃b off,a=some ⟨b,off,none⟩/\b<w.heap.size /\
  w.cell? ⟨b,off+i*12,none⟩=some (I_ J_ e.r)/\w.cell? ⟨b,off+i*12+1,none⟩=some (I_ J_ e.n)/\w.cell? ⟨b,off+i*12+2,none⟩=some (I_ J_ e.ctx.c0)/\w.cell? ⟨b,off+i*12+3,none⟩=some (I_ J_ e.ctx.c1) /\
  w.cell? ⟨b,off+i*12+4,none⟩=some (I_ J_ e.ctx.c2)/\w.cell? ⟨b,off+i*12+5,none⟩=some (I_ J_ e.ctx.c3)/\w.cell? ⟨b,off+i*12+6,none⟩=some (I_ J_ e.ctx.c4)/\w.cell? ⟨b,off+i*12+7,none⟩=some (I_ J_ e.height) /\
  w.cell? ⟨b,off+i*12+8,none⟩=some (I_ J_ e.kind)/\w.cell? ⟨b,off+i*12+9,none⟩=some (T_ e.key)/\w.cell? ⟨b,off+i*12+10,none⟩=some (I_ J_ e.label)/\w.cell? ⟨b,off+i*12+11,none⟩=some (T_ e.value):=by
 have hi:i<es.length:=(ZZ.1 he).1;rcases h.2.2.2 with h'|⟨b,off,h1,h2,h3⟩
 ·have:=h.2.2.1;omega
 ·have g:=h3 i e he;exact⟨b,off,h1,h2,g 0 ZO,g 1 ZO,g 2 ZO,g 3 ZO,g 4 ZO,g 5 ZO,g 6 ZO,g 7 ZO,g 8 ZO,g 9 ZO,g 10 ZO,g 11 ZO⟩
theorem EvSl.ae{base:Nat}(h:w.ownsRow base 89 12 v n (evCells es)):∃a cap,v=S_ a n cap/\EvSl w a n cap es:=by
 have hl:=h.1;rw[Zaw]at hl;have qV:es.length=n:=ZO;rcases h.2 with ⟨rfl,rfl⟩|⟨g,cap,cur,rfl,hb,hg,fp,iK,gC,ii⟩
 ·exact⟨none,0,rfl,ZL _,by unfold maxLen;omega,qV,.inl rfl⟩
 ·refine⟨_,_,rfl,fp,iK,qV,.inr ⟨g,0,rfl,Blk.lt (t:=89) hg,λi e he j hj=>?_⟩⟩;have hi:i<es.length:=(ZZ.1 he).1;have hc:=cell_of_row w g (0+i*12+j) cur 89 (0,0) hg;rw[hc];have e1:=Zgf es i j e he hj;rw[←ii]at e1;rw[List.getElem?_take,ZPp ZO]at e1;simpa using e1
theorem EvSl.reads(h:EvSl w a n cap es):Reads w w.heap.size 12 a n (evCells es):=by
 refine⟨by rw[Zaw,h.2.2.1],λhn=>?_⟩;rcases h.2.2.2 with h'|⟨b,off,h1,h2,h3⟩
 ·omega
 ·refine⟨_,h1,h2,λj u hu=>?_⟩;have hj:j<es.length*12:=by
   rw[←Zaw];exact(ZZ.1 hu).1
  have hi:j / 12<es.length:=ZO;have he:es[j / 12]? = some es[j / 12]:=ZX hi;have g:=h3 _ _ he (j%12) ZO;have g2:=Zgf es _ (j%12) _ he ZO;have ej:j / 12*12+j%12=j:=ZO;rw[ej,hu]at g2;rw[←g2]at g;have ea:(⟨b,off,none⟩:Addr).add j=⟨b,off+j / 12*12+j%12,none⟩:=by
   have:off+j / 12*12+j%12=off+j:=ZO;rw[this];unfold Addr.add;by_cases h0:j=0 <;> simp[h0]
  rw[ea];exact g
end
end
abbrev ZbW(r n:Nat):Value := .agg #[I_ J_ r,I_ J_ n]
theorem Zh4:prog.plainKey 3=true:=ZK
theorem Zg7:prog.underlying 161=some (.struct (prog.fieldsOf 161)):=ZK
theorem Zpn:prog.stoodInHeld 161=false:=ZK
theorem ZnN:((prog.fieldsOf 161).toList.map λf=>(f.name,f.type,f.offset))=[("R",3,0),("N",3,1)]:=ZK
theorem ZhH(a b:Nat):((a:Int)==(b:Int))=decide (a=b):=by
 rw[Bool.eq_iff_iff];simp only[beq_iff_eq,decide_eq_true_eq];omega
theorem Zkk:∃f g:Field,(prog.fieldsOf 161).toList=[f,g]/\f.name = "R" /\ f.type=3/\f.offset=0/\g.name = "N" /\ g.type=3/\g.offset=1:=by
 have h:=ZnN
 match hl:(prog.fieldsOf 161).toList with
 | [f,g] =>
  rw[hl]at h;simp only[List.map_cons,List.map_nil,List.cons.injEq,Prod.mk.injEq,and_true]at h;exact⟨f,g,rfl,h.1.1,h.1.2.1,h.1.2.2,h.2.1,h.2.2.1,h.2.2.2⟩
 | []=>rw[hl]at h;simp at h
 | [_]=>rw[hl]at h;simp at h
 |_::_::_::_=>rw[hl]at h;simp at h
theorem ZfU(r n:Nat)(w:World):(Go.part 3 #[I_ J_ (r:Int),I_ J_ (n:Int)] 0).run prog w=.ok (I_ J_ r) w/\(Go.part 3 #[I_ J_ (r:Int),I_ J_ (n:Int)] 1).run prog w=.ok (I_ J_ n) w :=
 ⟨run_part_plain (P:=prog) (w:=w) Zh4 rfl,run_part_plain (P:=prog) (w:=w) Zh4 rfl⟩
theorem ZkN(r n r' n':Nat)(w:World):(Op.equal 161 (ZbW r n) (ZbW r' n')).run prog w=.ok (decide (r=r'/\n=n')) w:=by
 obtain⟨f,g,hl,f1,f2,f3,g1,g2,g3⟩:=Zkk;unfold Op.equal;rw[show Op.maxDepth=9999+1 from rfl,run_equalIn_struct w 9999 _ _ _ Zg7 Zpn,hl];have hq:∀(a b:Nat) (w:World),(Op.equalIn 9999 3 (I_ J_ (a:Int)) (I_ J_ (b:Int))).run prog w=.ok (decide (a=b)) w:=λa b w=>by
  rw[←ZhH];exact run_equalIn_int (P:=prog) w 9998 3 .i64 .i64 a b underlying3
 have p1:=ZfU r n w;have p2:=ZfU r' n' w;simp only[Op.eqFields,ne_eq,String.reduceEq,not_false_eq_true,if_true,f1,f2,f3,g1,g2,g3,Sem.run_bind,p1.1,p2.1,hq,Result.andThen_ok];rcases hc:decide (r=r') with _|_
 ·simp at hc;simp[hc]
 ·simp only[decide_eq_true_eq]at hc;subst hc;simp only[Bool.not_true,Bool.false_eq_true,if_false,Sem.run_bind,p1.2,p2.2,hq,Result.andThen_ok];by_cases h2:n=n' <;> simp[h2]
theorem Zib(e:Bool)(r n d:Nat)(w:World):(Instr.checkKey e (d+1+1) 161 (ZbW r n)).run prog w=.ok () w:=by
 obtain⟨f,g,hl,f1,f2,f3,g1,g2,g3⟩:=Zkk;have p1:=ZfU r n w;have hk:=λ(x:Nat)=>Go.MapKept.run_checkKey (P:=prog) (w:=w) (kt:=3) (k := I_ J_ (x:Int)) underlying3 rfl e d
 rw[Instr.checkKey];simp only[Sem.run_bind,run_underlying Zg7,Result.andThen_ok];rw[←Array.forIn_toList,hl];simp only[List.forIn_cons,List.forIn_nil,Sem.run_bind,f1,f2,f3,g1,g2,g3,p1.1,p1.2,hk,Result.andThen_ok,ne_eq,String.reduceEq,not_false_eq_true,if_true,Sem.run_pure]
theorem Zd0(e:Bool)(r n:Nat)(w:World):(Instr.checkKey e 10000 161 (ZbW r n)).run prog w=.ok () w:=Zib e r n 9998 w
theorem Zic(r n:Nat)(w:World):∀(es:List MapEntry) (l:List Ev) (i:Nat),es.map (λe=>(e.key,e.val))=l.map (λe=>(ZbW e.r e.n,Zaj e)) ->
  (Instr.findAsking 161 (ZbW r n) es i).run prog w=.ok ((l.findIdx? λe=>decide (e.r=r/\e.n=n)).bind λk=>(l[k]?).map λe=>(i+k,Zaj e)) w
 | [],l,i,h=>by
  have:l=[]:=by simpa using h.symm
  subst this;simp[Instr.findAsking]
 |x::es,[],i,h=>by simp at h
 |x::es,e::l,i,h=>by
  simp only[List.map_cons,List.cons.injEq,Prod.mk.injEq]at h;obtain⟨⟨h1,h2⟩,h3⟩:=h;have ih:=Zic r n w es l (i+1) h3;simp only[Instr.findAsking,Sem.run_bind,h1,ZkN,Result.andThen_ok];by_cases hc:r=e.r/\n=e.n
  ·obtain⟨rfl,rfl⟩:=hc;simp[List.findIdx?_cons,h2]
  ·have Gv:¬(e.r=r/\e.n=n):=λh=>hc ⟨h.1.symm,h.2.symm⟩
   simp only[hc,decide_false,Bool.false_eq_true,if_false,ih,List.findIdx?_cons,Gv]
   cases hf:l.findIdx? λe=>decide (e.r=r/\e.n=n) with
   |none=>simp
   |some k=>simp;congr 1;funext x;congr 1;omega
def ZbR(r n:Nat)(l:List Ev):Option Ev:=l.find? λe=>decide (e.r=r/\e.n=n)
def MapEv(w:World)(b:Nat)(l:List Ev):Prop:=∃es clk,w.heap[b]? = some (.map es clk)/\es.toList.map (λe=>(e.key,e.val))=l.map λe=>(ZbW e.r e.n,Zaj e)
theorem Zet(r n:Nat)(w:World)(es:List MapEntry)(l:List Ev)(h:es.map (λe=>(e.key,e.val))=l.map (λe=>(ZbW e.r e.n,Zaj e))):
  (Instr.findKey 161 (ZbW r n) es).run prog w=.ok ((l.findIdx? λe=>decide (e.r=r/\e.n=n)).bind λk=>(l[k]?).map λe=>(k,Zaj e)) w:=by
 rw[run_findKey_eq w (by rw[Zg7]),Zic r n w es l 0 h];simp
theorem Zmz(l:List Ev)(p:Ev->Bool):(match (l.findIdx? p).bind λk=>(l[k]?).map λe=>(k,Zaj e) with|some (_,v)=>some v|none=>none)=(l.find? p).map Zaj:=by
 induction l with
 |nil=>simp
 |cons e l ih =>
  simp only[List.findIdx?_cons,List.find?_cons]
  cases h:p e with
  |true=>simp
  |false =>
   rw[←ih]
   cases l.findIdx? p with
   |none=>simp
   |some k=>cases h2:l[k]? <;> simp[h2]
abbrev Zsn:TypeId:=301
theorem ZtF:(prog.info? 89).map (·.zero)=some (some (.agg Zk)):=ZK
theorem ZtG(w:World):(zeroValue 89).run prog w=.ok (.agg Zk) w:=by
 have h:=ZtF
 cases hq:prog.info? 89 with
 |none=>rw[hq]at h;simp at h
 |some i =>
  rw[hq]at h;have hz:i.zero=some (.agg Zk):=by simpa using h
  simp[zeroValue,typeInfo,hq,hz]
theorem Zev(h:MapEv w b l)(r n:Nat):
  (Instr.lookup Zsn (.map (some b)) (ZbW r n) true).run prog w=.ok (match ZbR r n l with|some e => .tuple #[Zaj e,B_ true] | none => .tuple #[.agg Zk,B_ false]) w:=by
 obtain⟨es,clk,hb,iz⟩:=h;have hf:=Zmz l (λe=>decide (e.r=r/\e.n=n));have hk:=Zet r n w es.toList l iz;have hu:=run_underlying (w:=w) underlying301;have hg:(getObj b).run prog w=.ok (.map es clk) w:=by simp[getObj,Sem.run,hb]
 have hc:=Zd0 es.isEmpty r n w;unfold ZbR;rw[Instr.lookup];simp only[Sem.run_bind,hu,Result.andThen_ok,hg,hc,hk,Sem.run_pure];generalize (l.findIdx? λe=>decide (e.r=r/\e.n=n)).bind (λk=>(l[k]?).map λe=>(k,Zaj e))=x at hf ⊢
 cases hx:l.find? λe=>decide (e.r=r/\e.n=n) with
 |none =>
  rw[hx]at hf
  cases x with
  |none=>simp
  |some y=>simp at hf
 |some e =>
  rw[hx]at hf
  cases x with
  |none=>simp at hf
  |some y =>
   obtain⟨y1,y2⟩:=y;have:y2=Zaj e:=by simpa using hf
   subst this;simp
theorem ZlM{p:Ev->Bool}(h:l.find? p=none):l.findIdx? p=none:=by
 rw[List.findIdx?_eq_none_iff];intro x hx;have:=List.find?_eq_none.1 h x hx;simpa using this
theorem ZcH(w:World)(b:Nat)(o:Obj):w.grownBy { w with heap:=w.heap.setIfInBounds b o } (some b) :=
 ⟨rfl,rfl,rfl,ZM,λk _ hk=>by
  have:b≠k:=λe=>hk (by rw[e])
  simp[Array.getElem?_setIfInBounds_ne this]⟩
theorem Zkb(h:MapEv w b l)(e:Ev)(hn:ZbR e.r e.n l=none):
  ∃w',(Instr.mapUpdate Zsn (.map (some b)) (ZbW e.r e.n) (Zaj e)).run prog w=.ok () w'/\MapEv w' b (l++[e])/\w.grownBy w' (some b):=by
 obtain⟨es,clk,hb,iz⟩:=h;have hk:=Zet e.r e.n w es.toList l iz;rw[ZlM hn]at hk;have hu:=run_underlying (w:=w) underlying301;have hg:(getObj b).run prog w=.ok (.map es clk) w:=by simp[getObj,Sem.run,hb]
 have hc:=Zd0 false e.r e.n w;have cI:b<w.heap.size:=by
  rcases Nat.lt_or_ge b w.heap.size with h|h
  ·exact h
  ·rw[Array.getElem?_eq_none h]at hb;cases hb
 refine⟨{ w with heap:=w.heap.setIfInBounds b (.map (es.push { key:=ZbW e.r e.n,val:=Zaj e,born:=clk }) (clk+1)) },?_,⟨es.push { key:=ZbW e.r e.n,val:=Zaj e,born:=clk },clk+1,by simp[cI],?_⟩,ZcH _ _ _⟩
 ·rw[Instr.mapUpdate];simp only[Sem.run_bind,hu,Result.andThen_ok,hg,hc,hk,Option.bind_none];simp[setObj,Sem.run,hb]
 ·simp[iz]
theorem Zdp{α β : Type}(f : α -> β):∀(l:List α) (i:Nat),(l.map f).eraseIdx i=(l.eraseIdx i).map f
 | [],_=>rfl
 |_::_,0=>rfl
 |x::l,i+1=>by simp[Zdp f l i]
def ZbY(r n:Nat)(l:List Ev):List Ev:=l.eraseP λe=>decide (e.r=r/\e.n=n)
theorem Zka(h:MapEv w b l)(r n:Nat)(ty:TypeId):
  ∃w',(Builtin.delete_ #[Zsn,161] ty #[.map (some b),ZbW r n]).run prog w=.ok (.tuple #[]) w'/\MapEv w' b (ZbY r n l)/\w.grownBy w' (some b):=by
 obtain⟨es,clk,hb,iz⟩:=h;have hk:=Zet r n w es.toList l iz;have hu:=run_underlying (w:=w) underlying301;have hg:(getObj b).run prog w=.ok (.map es clk) w:=by simp[getObj,Sem.run,hb]
 have hc:=Zd0 es.isEmpty r n w;have cI:b<w.heap.size:=by
  rcases Nat.lt_or_ge b w.heap.size with h|h
  ·exact h
  ·rw[Array.getElem?_eq_none h]at hb;cases hb
 have hd:ZbY r n l=match l.findIdx? λe=>decide (e.r=r/\e.n=n) with|none=>l|some i=>l.eraseIdx i:=List.eraseP_eq_eraseIdx
 have hlen:es.toList.length=l.length:=by have:=congrArg List.length iz;simpa using this
 rw[hd]
 cases hi:l.findIdx? λe=>decide (e.r=r/\e.n=n) with
 |none =>
  rw[hi]at hk;refine⟨{ w with heap:=w.heap.setIfInBounds b (.map es clk) },?_,⟨es,clk,by simp[cI],iz⟩,ZcH _ _ _⟩;simp only[Builtin.delete_,ZD,ZE,ZG,Sem.run_bind,hu,Result.andThen_ok,hg,hc,hk,Option.bind_none];simp[setObj,Sem.run,hb]
 |some i =>
  have oS:i<l.length:=by
   have:=List.findIdx?_eq_some_iff_findIdx_eq.1 hi;exact this.1
  rw[hi,Option.bind_some,ZX oS,Option.map_some]at hk;refine⟨{ w with heap:=w.heap.setIfInBounds b (.map (es.eraseIdxIfInBounds i) clk) },?_,⟨es.eraseIdxIfInBounds i,clk,by simp[cI],?_⟩,ZcH _ _ _⟩
  ·simp only[Builtin.delete_,ZD,ZE,ZG,Sem.run_bind,hu,Result.andThen_ok,hg,hc,hk];simp[setObj,Sem.run,hb]
  ·obtain⟨U7⟩:=es;simp only[List.eraseIdxIfInBounds_toArray];have Oi:U7.map (λe=>(e.key,e.val))=l.map λe=>(ZbW e.r e.n,Zaj e):=iz
   rw[←Zdp,Oi,Zdp]
def Ev.below(a b:Ev):Bool:=b.ctx.has a.r a.n
theorem Zf1(a b:Ev)(w:World)(hr:a.r<5):Calls prog 218 #[Zaj a,Zaj b] w (Zx (B_ (a.below b)) w):=by
 have hx:=λW=>Zku b.ctx a.r a.n W hr
 have e1:a.below b=b.ctx.has a.r a.n:=rfl;rw[e1];clear e1;go_enter func218,ntmps218;go_wp2_with fail;refine(hx _).mono ?_;rintro r w1 ⟨rfl,cz⟩;go_wp2
 go_ret;exact⟨rfl,((((ZKr w).alloc _).alloc _).step cz).below⟩
def maxH(c:Clk)(l:List Ev):Nat:=((l.filter λe=>c.has e.r e.n).map (·.height)).foldl max 0
def Zeh(l:List Ev)(c:Clk):Nat:=maxH c l+1
theorem ZqU(c:Clk)(l:List Ev)(e:Ev):maxH c (l++[e])=if c.has e.r e.n=true then max (maxH c l) e.height else maxH c l:=by
 unfold maxH;rw[List.filter_append];by_cases h:c.has e.r e.n=true <;> simp[h]
theorem Zan{q:Nat}(h:l[q]? = some e):l.take (q+1)=l.take q++[e]:=by
 rw[List.take_add_one,h];rfl
theorem Zo9(l:List Ev)(c:Clk)(a:Option Addr)(n cap:Nat)(w:World)(h:EvSl w a n cap l)(hl:∀e∈l,e.r<5/\e.height<=16777216):
  Calls prog 67 #[S_ a n cap,Zbh c] w (Zx (I_ J_ (Zeh l c)) w):=by
 have HN:=ZH (h.2.2.1);have Ho:=h.1;have iK:=h.2.1;obtain⟨HA,HK,HL,HS⟩:=ZH4 (ZBn w 44 (clkArr c)) ((ZKr w).alloc (C_ (clkArr c) 44)) hl h;unfold maxLen at iK;have Hl:maxH c l<=16777216:=by
  have:∀(m:List Ev) (z:Nat),z<=16777216->(∀e∈m,e.height<=16777216)->((m.filter λe=>c.has e.r e.n).map (·.height)).foldl max z<=16777216:=by
   intro m
   induction m with
   |nil=>intro z hz _;exact hz
   |cons e m ih =>
    intro z hz hm;have:=hm e ZM;by_cases hc:c.has e.r e.n=true
    ·simp only[List.filter_cons,hc,if_true,List.map_cons,List.foldl_cons];exact ih _ ZO (λx hx=>hm x (by simp[hx]))
    ·simp only[List.filter_cons,hc];exact ih _ hz (λx hx=>hm x (by simp[hx]))
  exact this l 0 ZO (λe he=>(hl e he).2)
 have HM:=ZH Hl;clear hl h Hl;go_enter func67,ntmps67;go_wp2_with fail;go_loopw [5,6,11] (λg s i wr=>∃(q:Nat) (b:Bool),q<=n/\i=I_ J_ q/\g=I_ J_ (maxH c (l.take q))/\s=B_ b/\Hid (b=false->maxH c (l.take q)=0)/\maxH c (l.take q)<=16777216/\Hid (Blk wr w.heap.size 44 (clkArr c))/\Hid (K_ w wr)) (λ_ _ i _=>n-(intOf i).toNat)
 case atStart=>exact⟨0,false,ZO,rfl,rfl,rfl,ZH (λ_=>rfl),by simp[maxH],HA,HK⟩
 case round =>
  skip
  obtain⟨q,b,hq,rfl,rfl,rfl,HZ,D4,HA,HK⟩:=hrel;by_cases du:q<n
  ·obtain⟨e,he⟩:∃e,l[q]? = some e:=⟨_,ZX (by rw[HN.out];exact du)⟩;obtain⟨r5,QV⟩:=HL.out e (ZY he);have hs:=HS.out.of_same (w':=wr) (λad _ hl=>HK.out.below.block _ hl) HK.out.le;obtain⟨bk,off,rfl,cW,c0,c1,c2,c3,c4,c5,c6,c7,c8,c9,dg,dh⟩:=hs.at_ he;obtain⟨k0,k1,k2,k3,k4⟩:=HA.out.aG;have iC:=Zan he;have l8:=ZqU c (l.take q) e;rw[←iC]at l8;have cI:=HA.out.lt;obtain⟨xw,HE⟩:=ZH2 l8 he;clear iC l8 hs he;go_wp2_with fail;refine(Zku c e.r e.n _ r5).mono ?_;rintro r w2 ⟨rfl,cD⟩;have fW:=(ZBn wr 89 (evArr e)).ob cD;obtain⟨d0,d1,d2,d3,d4,d5,d6,d7,d8,d9,zl,uo⟩:=fW.ag;obtain⟨qo,cO⟩:=ZH2 ((HA.out.alloc (C_ (evArr e) 89)).ob cD) ((HK.out.alloc (C_ (evArr e) 89)).step cD);have jt:=fW.lt;clear fW cD c0 c1 c2 c3 c4 c5 c6 c7 c8 c9 dg dh k0 k1 k2 k3 k4;rcases oy:c.has e.r e.n with _|_
   ·have l8:=xw.out;rw[oy,ZPn ZM]at l8;have HQ:Hid (b=false->maxH c (l.take (q+1))=0):=ZH (λh=>by rw[l8];exact HZ.out h);rw[←l8]at D4;have ie:Value.int .i64 (maxH c (l.take q))=I_ J_ (maxH c (l.take (q+1))):=by rw[l8]
    rw[ie];clear l8 ie;go_wp2
    go_roundw
    case rel=>exact⟨q+1,b,ZO,ZN,rfl,rfl,HQ,D4,qo,cO⟩
    case measure=>simp[intOf];omega
   ·have l8:=xw.out;rw[oy,ZPp rfl]at l8;rcases b with _|_
    ·have h0:=HZ.out rfl;have hM:maxH c (l.take (q+1))=e.height:=by rw[l8,h0];omega
     have pZ:=ZH hM;clear l8 h0 hM;generalize maxH c (l.take q)=M0 at *;go_wp2
     go_roundw
     case rel=>exact⟨q+1,true,ZO,ZN,by rw[pZ.out],rfl,ZH (λh=>by cases h),by rw[pZ.out];exact QV,qo,cO⟩
     case measure=>simp[intOf];omega
    ·rcases Nat.lt_or_ge (maxH c (l.take q)) e.height with zJ|eE
     ·have hM:maxH c (l.take (q+1))=e.height:=by rw[l8];omega
      have pZ:=ZH hM;have hd:decide (maxH c (l.take q)<e.height)=true:=ZP;clear l8 hM;generalize maxH c (l.take q)=M0 at *;go_wp2
      go_roundw
      case rel=>exact⟨q+1,true,ZO,ZN,by rw[pZ.out],rfl,ZH (λh=>by cases h),by rw[pZ.out];exact QV,qo,cO⟩
      case measure=>simp[intOf];omega
     ·have hM:maxH c (l.take (q+1))=maxH c (l.take q):=by rw[l8];omega
      have pZ:=ZH hM;have hd:decide (maxH c (l.take q)<e.height)=false:=ZP;clear l8 hM;go_wp2
      go_roundw
      case rel=>exact⟨q+1,true,ZO,ZN,by rw[pZ.out],rfl,ZH (λh=>by cases h),by rw[pZ.out];exact D4,qo,cO⟩
      case measure=>simp[intOf];omega
  ·obtain rfl:q=n:=ZO;have hM:maxH c (l.take q)=maxH c l:=by rw[ZU (by rw[HN.out];omega)]
   have pZ:=ZH hM;have dz:((maxH c l:Nat):Int)+1=((Zeh l c:Nat):Int):=by unfold Zeh;omega
   have HF:=ZH dz;clear hM dz;generalize maxH c (l.take q)=M0 at *;go_wp2
   go_ret;exact⟨Zuc (by rw[pZ.out];exact HF.out),HK.out.below⟩
theorem Zg6(e:Ev)(w:World):Calls prog 188 #[Zaj e] w (Zx (ZbW e.r e.n) w):=by
 go_enter func188,ntmps188;go_wp2_with fail;refine bodyPost_end (Z6 rfl rfl (run_loadVar_row _ _ _ _ _ _ _ (Zag _ _ _ _) underlying161 rfl ZK)) rfl ?_;exact⟨rfl,ZbT _ _ _⟩
def Zcm(c:Clk)(l:List Ev)(r:Nat):Option Ev :=
 match ZbR r (c.get r+1) l with
 |some e=>if e.ctx.le c then some e else none
 |none=>none
def Zbq(c:Clk)(l:List Ev):Option Ev:=(List.range 5).findSome? (Zcm c l)
theorem ZmU{k:Nat}(hk:k<5)(h:∀j,j<k->Zcm c l j=none)(he:Zcm c l k=some e):Zbq c l=some e:=by
 unfold Zbq;rw[show List.range 5=[0,1,2,3,4] from rfl]
 match k,hk with
 | 0,_=>simp[he]
 | 1,_=>simp[h 0 ZO,he]
 | 2,_=>simp[h 0 ZO,h 1 ZO,he]
 | 3,_=>simp[h 0 ZO,h 1 ZO,h 2 ZO,he]
 | 4,_=>simp[h 0 ZO,h 1 ZO,h 2 ZO,h 3 ZO,he]
theorem ZjU(h:∀j,j<5->Zcm c l j=none):Zbq c l=none:=by
 unfold Zbq;rw[show List.range 5=[0,1,2,3,4] from rfl];simp[h 0 ZO,h 1 ZO,h 2 ZO,h 3 ZO,h 4 ZO]
theorem ZgS(h:ZbR r n l=some e):e∈l/\e.r=r/\e.n=n:=by
 have h1:=List.mem_of_find?_eq_some h;have h2:=List.find?_some h;simp only[decide_eq_true_eq]at h2;exact⟨h1,h2⟩
theorem MapEv.lt(h:MapEv w b l):b<w.heap.size:=by
 obtain⟨es,clk,hb,_⟩:=h;rcases Nat.lt_or_ge b w.heap.size with h|h
 ·exact h
 ·rw[Array.getElem?_eq_none h]at hb;cases hb
theorem MapEv.of_same{w':World}(h:MapEv w b l)(hk:w'.heap[b]? = w.heap[b]?):MapEv w' b l:=by
 obtain⟨es,clk,hb,he⟩:=h;exact⟨es,clk,hk.trans hb,he⟩
theorem MapEv.below{w w':World}{b:Nat}{l:List Ev}(h:MapEv w b l)(hb:L_ w w'):MapEv w' b l:=h.of_same (hb.block b h.lt)
def ZrK(o:Option Ev)(w:World)(e:Ending)(w':World):Prop:=e=R_ (match o with|some v => .tuple #[Zaj v,B_ true] | none => .tuple #[.agg Zk,B_ false])/\L_ w w'
theorem ZjV(c:Clk)(l:List Ev)(b:Nat)(w:World)(h:MapEv w b l)(hc:∀i,c.get i<=2000000):
  Calls prog 189 #[Zbh c,.map (some b)] w (ZrK (Zbq c l) w):=by
 obtain⟨HA,HB,HK,HM,HC⟩:=ZH5 ((ZBn w 44 (clkArr c)).alloc (C_ Zk 89)) (Zag w (C_ (clkArr c) 44) 89 Zk) (((ZKr w).alloc (C_ (clkArr c) 44)).alloc (C_ Zk 89)) h hc;obtain⟨O,hO⟩:∃O,O=Zbq c l:=⟨_,rfl⟩;rw[←hO];have HO:=ZH hO;have fQ:=h.lt;clear h hc hO;go_enter func189,ntmps189;go_wp2_with fail;go_loopw [9] (λi wr=>∃k:Nat,k<=5/\i=I_ J_ k/\Hid (∀j,j<k->Zcm c l j=none)/\Hid (Blk wr w.heap.size 44 (clkArr c))/\Hid (Blk wr (w.heap.size+1) 89 Zk)/\Hid (Kept w.heap.size w wr)) (λi _=>5-(intOf i).toNat)
 case atStart=>exact⟨0,ZO,rfl,ZH (λj hj=>ZO),HA,HB,HK⟩
 case round =>
  skip
  obtain⟨k,hk,rfl,HL,HA,HB,HK⟩:=hrel;by_cases eM:k<5
  ·have ca:=HA.out.clk eM;have eD:=HC.out k;have hm:=HM.out.of_same (HK.out.below.block b fQ);have kQ:=Zev hm k (c.get k+1);have e1:((c.get k+1:Nat):Int)=(c.get k:Int)+1:=ZO;simp only[ZbW,e1]at kQ;clear hm e1;rcases nA:ZbR k (c.get k+1) l with _|e
   ·rw[nA]at kQ;have hn:∀j,j<k+1->Zcm c l j=none:=λj hj=>by
     rcases Nat.lt_or_ge j k with h|h
     ·exact HL.out j h
     ·obtain rfl:j=k:=ZO;unfold Zcm;rw[nA]
    have HN:=ZH hn;clear hn nA;have rv:=HA.out.alloc (C_ Zk 89);have dx:=HB.out.alloc (C_ Zk 89);have gU:=HK.out.alloc (C_ Zk 89);obtain⟨qo,df,cO⟩:=ZH3 rv dx gU;clear rv dx gU;go_wp2
    go_roundw
    case rel=>exact⟨k+1,ZO,ZN,HN,qo,df,cO⟩
    case measure=>simp[intOf];omega
   ·rw[nA]at kQ;obtain⟨fR,qe,nO⟩:=ZgS nA;have qi:1<=e.n:=ZO;have lr:decide ((e.n:Int)>=1)=true:=ZP;have rv:=HA.out.alloc (C_ (evArr e) 89);have dx:=HB.out.alloc (C_ (evArr e) 89);have wU:=ZH (ZBn wr 89 (evArr e));have gU:=HK.out.alloc (C_ (evArr e) 89);obtain⟨qo,df,cO⟩:=ZH3 rv dx gU;obtain⟨k0,k1,k2,k3,k4⟩:=HA.out.aG;have Cz:=HA.out.lt;clear rv dx gU;have ED:=ZH nA;clear nA fR qe nO;go_wp2_with fail;refine(Zpj e.ctx c _).mono ?_;rintro r w2 ⟨rfl,cD⟩;obtain⟨Do,dN,tB,cU⟩:=ZH4 (qo.out.ob cD) (df.out.ob cD) (wU.out.ob cD) (cO.out.step cD);clear cD k0 k1 k2 k3 k4 ca;rcases eE:e.ctx.le c with _|_
    ·have hn:∀j,j<k+1->Zcm c l j=none:=λj hj=>by
      rcases Nat.lt_or_ge j k with h|h
      ·exact HL.out j h
      ·obtain rfl:j=k:=ZO;unfold Zcm;rw[ED.out];simp[eE]
     have HN:=ZH hn;clear hn eE;go_wp2
     go_roundw
     case rel=>exact⟨k+1,ZO,ZN,HN,Do,dN,cU⟩
     case measure=>simp[intOf];omega
    ·have NR:O=some e:=by
      rw[HO.out];have:Zcm c l k=some e:=by unfold Zcm;rw[ED.out];simp[eE]
      exact ZmU eM HL.out this
     subst NR;obtain⟨d0,d1,d2,d3,d4,d5,d6,d7,d8,d9,zl,uo⟩:=tB.out.ag;obtain⟨g0,g1,g2,g3,g4,g5,g6,g7,g8,g9,DK,Nx⟩:=dN.out.ag;have fo:=dN.out.frozen;have f0:=fo 0;have f1:=fo 1;have f2:=fo 2;have f3:=fo 3;have f4:=fo 4;have f5:=fo 5;have f6:=fo 6;have f7:=fo 7;have f8:=fo 8;have f9:=fo 9;have f10:=fo 10;have f11:=fo 11;have oA:=dN.out.lt;clear eE fo;go_wp2_with fail;have dz:=Zal (vs:=evArr e) dN.out rfl;have m8:=Zaf cU.out (g:=w.heap.size+1) ZO 0 (evArr e).toList;refine bodyPost_ret (w:=setAll w2 (w.heap.size+1) 0 (evArr e).toList) (Zq rfl rfl rfl (run_loadVar_row _ _ _ _ _ _ _ dz underlying89 rfl ZK)) rfl ?_;exact⟨rfl,m8.below⟩
  ·obtain rfl:k=5:=ZO;have NR:O=none:=by
    rw[HO.out];exact ZjU HL.out
   subst NR;obtain⟨g0,g1,g2,g3,g4,g5,g6,g7,g8,g9,DK,Nx⟩:=HB.out.ag;have fo:=HB.out.frozen;have f0:=fo 0;have f1:=fo 1;have f2:=fo 2;have f3:=fo 3;have f4:=fo 4;have f5:=fo 5;have f6:=fo 6;have f7:=fo 7;have f8:=fo 8;have f9:=fo 9;have f10:=fo 10;have f11:=fo 11;have oA:=HB.out.lt;clear fo;go_wp2_with fail;have dz:=Zal (vs:=Zk) HB.out rfl;have m8:=Zaf HK.out (g:=w.heap.size+1) ZO 0 Zk.toList;refine bodyPost_ret (w:=setAll wr (w.heap.size+1) 0 Zk.toList) (Zq rfl rfl rfl (run_loadVar_row _ _ _ _ _ _ _ dz underlying89 rfl ZK)) rfl ?_;exact⟨rfl,m8.below⟩
section
theorem ZbV:(prog.info? 89).map (λi=>(i.zero,i.size,i.bytes))=some (some (.agg Zk),12,112):=ZK
def ZcG(c:Clk)(gT:List Ev)(e:Ev):List Ev:=if (ZbR e.r e.n gT).isNone && !c.has e.r e.n then gT++[e] else gT
def Zak(c:Clk)(l:List Ev):List Ev:=l.foldl (ZcG c) []
def ZaS:Nat->Clk->List Ev->List Ev->List Ev×List Ev×Clk
 | 0,c,w,d=>(d,w,c)
 |f+1,c,w,d =>
  match Zbq c w with
  |some e=>ZaS f (c.set e.r (c.get e.r+1)) (ZbY e.r e.n w) (d++[e])
  |none=>(d,w,c)
def Zcp(o w:List Ev):List Ev:=o.filter λe=>(ZbR e.r e.n w).isSome
def drained(c:Clk)(l:List Ev):List Ev×List Ev×Clk:=ZaS (Zak c l).length c (Zak c l) []
theorem Zmy(c:Clk)(l:List Ev)(e:Ev):Zak c (l++[e])=ZcG c (Zak c l) e:=by simp[Zak]
theorem ZeQ(c:Clk):∀(l gT:List Ev),∀x∈l.foldl (ZcG c) gT,x∈gT∨x∈l
 | [],gT,x,h => .inl h
 |e::l,gT,x,h=>by
  rcases ZeQ c l _ x h with h|h
  ·unfold ZcG at h;split at h
   ·simp only[List.mem_append,List.mem_cons,List.not_mem_nil,or_false]at h;rcases h with h|rfl
    ·exact .inl h
    ·exact .inr ZM
   ·exact .inl h
  ·exact .inr (by simp[h])
theorem ZeP(c:Clk):∀(l gT:List Ev),(l.foldl (ZcG c) gT).length<=gT.length+l.length
 | [],gT=>ZM
 |e::l,gT=>by
  have:=ZeP c l (ZcG c gT e);have h2:(ZcG c gT e).length<=gT.length+1:=by unfold ZcG;split <;> simp
  simp only[List.foldl_cons,List.length_cons];omega
structure DS(w W:World)(c:Clk)(m:List Ev)(v8:Value)(o:List Ev):Prop where
 clk:Blk W w.heap.size 44 (clkArr c)
 out:Blk W (w.heap.size+1) 44 #[I_ J_ 0,I_ J_ 0,I_ J_ 0,I_ J_ 0,I_ J_ 0]
 map:MapEv W (w.heap.size+1+1) m
 row:W.ownsRow w.heap.size 89 12 v8 o.length (evCells o)
 kept:K_ w W
section
variable {w W W':World}{c:Clk}{m o:List Ev}{v8:Value}
theorem DS.below(h:DS w W c m v8 o)(hb:L_ W W'):DS w W' c m v8 o :=
 ⟨h.clk.ob hb,h.out.ob hb,h.map.below hb,Ze h.row hb,h.kept.step hb⟩
theorem DS.alloc(h:DS w W c m v8 o)(x:Obj):DS w (W.alloc x) c m v8 o:=h.below ((ZW _ _).alloc (ZL _) x)
theorem DS.drewN(h:DS w W c m v8 o)(k:Nat):DS w (W.drewN k) c m v8 o:=⟨h.clk,h.out,h.map,h.row,h.kept.drewN k⟩
theorem Zfn(h:W.ownsRow w.heap.size 89 12 v8 o.length (evCells o))(hm:MapEv W b m):v8.ownBlock≠some b:=by
 intro e;obtain⟨es,clk,hb,_⟩:=hm;rcases h.2 with ⟨rfl,_⟩|⟨g,cap,cur,rfl,_,hh,_⟩
 ·cases e
 ·injection e with e
  have e':g=b:=e;subst e';rw[hb]at hh
  cases hh
theorem DS.mapped{m':List Ev}(h:DS w W c m v8 o)(hg:W.grownBy W' (some (w.heap.size+1+1)))(hm:MapEv W' (w.heap.size+1+1) m'):DS w W' c m' v8 o :=
 ⟨h.clk.grown hg ZP,h.out.grown hg ZM,hm,h.row.kept hg (.inr (Zfn h.row h.map)),⟨h.kept.below.grown hg h.kept.le (λk hk=>by injection hk;omega),ZT h.kept.le hg.size⟩⟩
theorem ZdS{cs:Array Value}(h:W.ownsRow w.heap.size 89 12 v8 o.length (evCells o))(hb:Blk W b t cs)(ht:89≠t):v8.ownBlock≠some b:=Zr h hb ht
theorem DS.aM{v':Value}(h:DS w W c m v8 o)(hg:W.grownBy W' v8.ownBlock)(hr:W'.ownsRow w.heap.size 89 12 v' (o.length+1) (evCells o++(evArr e).toList)):DS w W' c m v' (o++[e]):=by
 refine⟨h.clk.grown hg (Ne.symm (ZdS h.row h.clk ZJ)),h.out.grown hg (Ne.symm (ZdS h.row h.out ZJ)),h.map.of_same (hg.block _ h.map.lt (Ne.symm (Zfn h.row h.map))),?_,⟨h.kept.below.grown hg h.kept.le (λk hk=>(Zb h.row hk).1),ZT h.kept.le hg.size⟩⟩;have e1:evCells (o++[e])=evCells o++(evArr e).toList:=by simp[evCells]
 rw[e1,ZI];exact hr
end
abbrev RowE(w W:World)(v:Value)(es:List Ev):Prop:=W.ownsRow w.heap.size 89 12 v es.length (evCells es)
def Apart(v v':Value):Prop:=∀g,v.ownBlock=some g->v'.ownBlock≠some g
section
variable {w W W':World}{c:Clk}{m o es:List Ev}{v v8 v':Value}
theorem DS.other(h:DS w W c m v8 o)(hr:RowE w W v es)(hg:W.grownBy W' v.ownBlock)(ha:Apart v v8):DS w W' c m v8 o :=
 ⟨h.clk.grown hg (Ne.symm (ZdS hr h.clk ZJ)),h.out.grown hg (Ne.symm (ZdS hr h.out ZJ)),h.map.of_same (hg.block _ h.map.lt (Ne.symm (Zfn hr h.map))),
  Zi h.row (λg h1 h2=>hg.block g h2 (λe=>ha g e.symm h1)),⟨h.kept.below.grown hg h.kept.le (λk hk=>(Zb hr hk).1),ZT h.kept.le hg.size⟩⟩
theorem Apart.fresh(ha:Apart v v8)(hr:RowE w W v8 o)(hv:v'.ownBlock=v.ownBlock∨v'.ownBlock=some W.heap.size):Apart v' v8:=by
 intro g h1 h2;rcases hv with e|e
 ·exact ha g (e.symm.trans h1) h2
 ·rw[e]at h1;injection h1 with h1;have:=(Zb hr h2).2;omega
theorem Zh2(hr:RowE w W v8 o)(hg:W.heap.size<=g):v8.ownBlock≠some g:=λe=>by
 have:=(Zb hr e).2;omega
theorem RowE.kept(hr:RowE w W v8 o)(hg:W.grownBy W' v.ownBlock)(ha:Apart v v8):RowE w W' v8 o:=Zi hr (λg h1 h2=>hg.block g h2 (λe=>ha g e.symm h1))
theorem RowE.snoc(hr:W.ownsRow w.heap.size 89 12 v (es.length+1) (evCells es++(evArr e).toList)):RowE w W v (es++[e]):=by
 have e1:evCells (es++[e])=evCells es++(evArr e).toList:=by simp[evCells]
 unfold RowE;rw[e1,ZI];exact hr
end
def optArr(x:Option Ev):Array Value:=evArr (x.getD Ev.zero)
structure DL(w W:World)(c:Clk)(m:List Ev)(v8:Value)(o:List Ev)(v4:Value)(d:List Ev)(g:Nat)(x:Option Ev):Prop where
 ds:DS w W c m v8 o
 done:RowE w W v4 d
 apart:Apart v4 v8
 box:Blk W g 89 (optArr x)
 ne4:v4.ownBlock≠some g
 ne8:v8.ownBlock≠some g
 glo:w.heap.size+1+1<g
section
variable {w W W':World}{c:Clk}{m o d:List Ev}{v8 v4 v':Value}{g:Nat}{x:Option Ev}
theorem DL.below(h:DL w W c m v8 o v4 d g x)(hb:L_ W W'):DL w W' c m v8 o v4 d g x :=
 ⟨h.ds.below hb,Ze h.done hb,h.apart,h.box.ob hb,h.ne4,h.ne8,h.glo⟩
theorem DL.alloc(h:DL w W c m v8 o v4 d g x)(ob:Obj):DL w (W.alloc ob) c m v8 o v4 d g x:=h.below ((ZW _ _).alloc (ZL _) ob)
theorem DL.aM(h:DL w W c m v8 o v4 d g x)(hg:W.grownBy W' v4.ownBlock)(hr:W'.ownsRow w.heap.size 89 12 v' (d.length+1) (evCells d++(evArr e).toList))(hv:v'.ownBlock=v4.ownBlock∨v'.ownBlock=some W.heap.size):DL w W' c m v8 o v' (d++[e]) g x :=
 ⟨h.ds.other h.done hg h.apart,RowE.snoc hr,h.apart.fresh h.ds.row hv,h.box.grown hg (Ne.symm h.ne4),λe=>by
  rcases hv with e'|e'
  ·exact h.ne4 (e'.symm.trans e)
  ·rw[e']at e;injection e with e;have:=h.box.lt;omega,h.ne8,h.glo⟩
theorem DL.mapped{m':List Ev}(h:DL w W c m v8 o v4 d g x)(hg:W.grownBy W' (some (w.heap.size+1+1)))(hm:MapEv W' (w.heap.size+1+1) m'):DL w W' c m' v8 o v4 d g x :=
 ⟨h.ds.mapped hg hm,h.done.kept (v := S_ (some ⟨w.heap.size+1+1,0,none⟩) 0 0) hg (λk h1 h2=>by
  injection h1 with h1
  have FG:w.heap.size+1+1=k:=h1;subst FG
  exact Zfn h.done h.ds.map h2),h.apart,h.box.grown hg (by have:=h.glo;intro e;injection e;omega),h.ne4,h.ne8,h.glo⟩
theorem DL.bY(h:DL w W c m v8 o v4 d g x)(i:Nat)(hi:i<5)(y:Nat):DL w (W.setCell ⟨w.heap.size,i,none⟩ (I_ J_ y)) (c.set i y) m v8 o v4 d g x:=by
 have hg:=h.glo;have fg:=h.ds.clk.aj i (I_ J_ (y:Int));rw[Zfg c hi]at fg;have far:=λ(k:Nat) (hk:k≠w.heap.size)=>Below.heap_setCell W ⟨w.heap.size,i,none⟩ (I_ J_ (y:Int)) k hk
 have rows:∀(v:Value) (es:List Ev),RowE w W v es->RowE w (W.setCell ⟨w.heap.size,i,none⟩ (I_ J_ y)) v es:=λv es hr=>Zi hr (λk h1 _=>far k (λe=>ZdS hr h.ds.clk ZJ (by rw[h1,e])))
 exact⟨⟨fg,h.ds.out.far ZM _,h.ds.map.of_same (far _ ZO),rows _ _ h.ds.row,h.ds.kept.setCell (ZL _) _⟩,rows _ _ h.done,h.apart,h.box.far (by show g≠w.heap.size;omega) _,h.ne4,h.ne8,h.glo⟩
theorem DL.ce{x':Option Ev}(h:DL w W c m v8 o v4 d g x):DL w (W.alloc (C_ (optArr x') 89)) c m v8 o v4 d W.heap.size x' :=
 ⟨h.ds.alloc _,Ze h.done ((ZW _ _).alloc (ZL _) _),h.apart,ZBn W 89 _,Zh2 h.done (ZL _),Zh2 h.ds.row (ZL _),by have:=h.box.lt;have:=h.glo;omega⟩
theorem DL.bm{x':Option Ev}(h:DL w W c m v8 o v4 d g x)(hs:(optArr x').size=(optArr x).size):DL w (setAll W g 0 (optArr x').toList) c m v8 o v4 d g x':=by
 have hg:=h.glo;have hb:=Zal (vs:=optArr x') h.box hs;have h2:=h.ds.kept;have far:=λ(k:Nat) (hk:k≠g)=>Zai hk (optArr x').toList 0 W
 have rows:∀(v:Value) (es:List Ev),RowE w W v es->v.ownBlock≠some g->RowE w (setAll W g 0 (optArr x').toList) v es:=λv es hr hn=>Zi hr (λk h1 _=>far k (λe=>hn (by rw[h1,e])))
 exact⟨⟨(far _ ZO).trans h.ds.clk,(far _ ZO).trans h.ds.out,h.ds.map.of_same (far _ ZO),rows _ _ h.ds.row h.ne8,Zaf h2 ZO _ _⟩,rows _ _ h.done h.ne4,h.apart,hb,h.ne4,h.ne8,h.glo⟩
end
theorem ZnT(x y:Option Ev):(optArr x).size=(optArr y).size:=rfl
theorem RowE.sl(h:RowE w W (S_ a n cap) es):EvSl W a n cap es:=by
 have hn:n=es.length:=by
  rcases h.2 with ⟨h1,h2⟩|⟨g,cp,cur,h1,_⟩
  ·injection h1 with _ h1 _;omega
  ·injection h1 with _ h1 _
 subst hn;obtain⟨a',cap',h1,h2⟩:=EvSl.ae h;injection h1 with h1 h3 h4;rw[h1,h4];exact h2
theorem Zph(o w:List Ev)(e:Ev):Zcp (o++[e]) w=Zcp o w++if (ZbR e.r e.n w).isSome=true then [e] else []:=by
 unfold Zcp;rw[List.filter_append];by_cases h:(ZbR e.r e.n w).isSome=true <;> simp[h]
structure D3(w W:World)(c:Clk)(m:List Ev)(v8:Value)(o:List Ev)(v4:Value)(d:List Ev)(v5:Value)(lf:List Ev):Prop where
 ds:DS w W c m v8 o
 done:RowE w W v4 d
 left:RowE w W v5 lf
 a58:Apart v5 v8
 a54:Apart v5 v4
section
variable {w W W':World}{c:Clk}{m o d lf:List Ev}{v8 v4 v5 v':Value}
theorem D3.below(h:D3 w W c m v8 o v4 d v5 lf)(hb:L_ W W'):D3 w W' c m v8 o v4 d v5 lf:=⟨h.ds.below hb,Ze h.done hb,Ze h.left hb,h.a58,h.a54⟩
theorem D3.alloc(h:D3 w W c m v8 o v4 d v5 lf)(ob:Obj):D3 w (W.alloc ob) c m v8 o v4 d v5 lf:=h.below ((ZW _ _).alloc (ZL _) ob)
theorem D3.aM(h:D3 w W c m v8 o v4 d v5 lf)(hg:W.grownBy W' v5.ownBlock)(hr:W'.ownsRow w.heap.size 89 12 v' (lf.length+1) (evCells lf++(evArr e).toList))(hv:v'.ownBlock=v5.ownBlock∨v'.ownBlock=some W.heap.size):D3 w W' c m v8 o v4 d v' (lf++[e]) :=
 ⟨h.ds.other h.left hg h.a58,h.done.kept hg h.a54,RowE.snoc hr,h.a58.fresh h.ds.row hv,h.a54.fresh h.done hv⟩
end
theorem D3.finish{o d lf:List Ev}{v8 v4 v5:Value}(h:D3 w W c m v8 o v4 d v5 lf):
  Blk (setAll W (w.heap.size+1) 0 (clkArr c).toList) (w.heap.size+1) 44 (clkArr c)/\RowE w (setAll W (w.heap.size+1) 0 (clkArr c).toList) v4 d/\RowE w (setAll W (w.heap.size+1) 0 (clkArr c).toList) v5 lf/\Kept w.heap.size w (setAll W (w.heap.size+1) 0 (clkArr c).toList):=by
 have hb:=Zal (vs:=clkArr c) h.ds.out rfl;have hk:=Zaf h.ds.kept (g:=w.heap.size+1) ZO 0 (clkArr c).toList;have far:=λ(k:Nat) (hk:k≠w.heap.size+1)=>Zai hk (clkArr c).toList 0 W
 have rows:∀(v:Value) (es:List Ev),RowE w W v es->RowE w (setAll W (w.heap.size+1) 0 (clkArr c).toList) v es:=λv es hr=>Zi hr (λk h1 _=>far k (λe=>ZdS hr h.ds.out ZJ (by rw[h1,e])))
 exact⟨hb,rows _ _ h.done,rows _ _ h.left,hk⟩
theorem Zf9{t2 t3 y3:Nat}(h:fn.results=#[.tmp t1,.tmp t2,.cell t3 y3]){a3:Addr}
  (p1:tmps.getD t1 undef=v1) (p2:tmps.getD t2 undef=v2) (p3:tmps.getD t3 undef=P_ (some a3)) (l3:(loadVar y3 a3).run P w=.ok v3 w):(results fn tmps).run P w=.ok (.tuple #[v1,v2,v3]) w:=by
 have q1:tmps[t1]?.getD undef=v1:=by simpa using p1
 have q2:tmps[t2]?.getD undef=v2:=by simpa using p2
 have q3:tmps[t3]?.getD undef=P_ (some a3):=by simpa using p3
 simp[results,h,q1,q2,q3,asAddr,l3]
def ZhY(w:World)(b:Nat):Nat:=match w.heap[b]? with|some (.map es _)=>es.size|_=>0
theorem MapEv.len(h:MapEv w b m):ZhY w b=m.length:=by
 obtain⟨es,clk,hb,he⟩:=h;have:=congrArg List.length he;simp only[List.length_map,Array.length_toList]at this;simp[ZhY,hb,this]
theorem Zgo{f:Nat}{d:List Ev}(h:Zbq c m=none):ZaS f c m d=(d,m,c):=by
 cases f with
 |zero=>rfl
 |succ f=>simp[ZaS,h]
theorem Zsq(h:Zbq c m=some e):e∈m/\ZbR e.r e.n m=some e/\e.n=c.get e.r+1/\e.r<5:=by
 unfold Zbq at h;obtain⟨r,hr,h⟩:=List.exists_of_findSome?_eq_some h;unfold Zcm at h
 cases hf:ZbR r (c.get r+1) m with
 |none=>rw[hf]at h;cases h
 |some e' =>
  rw[hf]at h;simp only at h;split at h
  ·injection h with h
   subst h;obtain⟨h1,h2,h3⟩:=ZgS hf;subst h2;rw[←h3]at hf;exact⟨h1,hf,h3,by simpa using hr⟩
  ·cases h
theorem Zqs(h:ZbR r n m=some e):(ZbY r n m).length=m.length-1:=by
 have h1:=List.mem_of_find?_eq_some h;have h2:=List.find?_some h;exact List.length_eraseP_of_mem h1 h2
theorem Zqt{x:Ev}(h:x∈ZbY r n m):x∈m:=List.mem_of_mem_eraseP h
theorem Zcj(w:World)(e:Ev):Reads (w.alloc (C_ (evArr e) 89)) (w.heap.size+1) 12 (some ⟨w.heap.size,0,none⟩) 1 (evArr e).toList:=by
 refine⟨rfl,λ_=>⟨_,rfl,ZM,λj v hj=>?_⟩⟩;have ea:(⟨w.heap.size,0,none⟩:Addr).add j=⟨w.heap.size,j,none⟩:=by
  unfold Addr.add;by_cases h0:j=0 <;> simp[h0]
 rw[ea,(ZBn w 89 _).cell];simpa using hj
theorem Zej(w:World)(o:Obj)(e:Ev):Reads ((w.alloc o).alloc (C_ (evArr e) 89)) (w.heap.size+1+1) 12 (some ⟨w.heap.size+1,0,none⟩) 1 (evArr e).toList:=by
 have h:=Zcj (w.alloc o) e;have e1:(w.alloc o).heap.size=w.heap.size+1:=ZM;rw[e1]at h;exact h
theorem ZaT(e:Ev):∀u∈(evArr e).toList,u.oneCell'=true:=by
 intro u hu;simp at hu;rcases hu with rfl|rfl|rfl|rfl|rfl|rfl|rfl|rfl|rfl|rfl|rfl|rfl <;> rfl
theorem Zqr(c:Clk)(l:List Ev)(a:Option Addr)(n cap:Nat)(w:World)(h:EvSl w a n cap l)(hl:∀e∈l,e.r<5/\1<=e.n)(hc:∀i,c.get i+n<=1000000):
  Calls prog 160 #[Zbh c,S_ a n cap] w λr w'=>∃v1 v2,r=R_ (.tuple #[v1,v2,Zbh (drained c l).2.2]) /\
   w'.ownsRow w.heap.size 89 12 v1 (drained c l).1.length (evCells (drained c l).1)/\w'.ownsRow w.heap.size 89 12 v2 (Zcp (Zak c l) (drained c l).2.1).length (evCells (Zcp (Zak c l) (drained c l).2.1))/\Apart v2 v1/\Below w.heap.size w w':=by
 have hlen:=h.2.2.1;have Ho:=h.1;have iK:=h.2.1;unfold maxLen at iK;have Ko:n<=1000000:=by have:=hc 0;omega
 obtain⟨i0,hi,dd,cV,dc⟩:=info_parts ZbV;have RG:DS w (((w.alloc (C_ (clkArr c) 44)).alloc (C_ #[I_ J_ 0,I_ J_ 0,I_ J_ 0,I_ J_ 0,I_ J_ 0] 44)).alloc (.map #[] 0)) c [] (S_ none 0 0) []:=by
  have s1:((w.alloc (C_ (clkArr c) 44)).alloc (C_ #[I_ J_ 0,I_ J_ 0,I_ J_ 0,I_ J_ 0,I_ J_ 0] 44)).heap.size=w.heap.size+1+1:=ZM;refine⟨((ZBn w _ _).alloc _).alloc _,(Zag w _ _ _).alloc _,?_,⟨rfl,.inl ⟨rfl,rfl⟩⟩,(((ZKr w).alloc _).alloc _).alloc _⟩;refine⟨#[],0,?_,rfl⟩;have:=heap_alloc_new ((w.alloc (C_ (clkArr c) 44)).alloc (C_ #[I_ J_ 0,I_ J_ 0,I_ J_ 0,I_ J_ 0,I_ J_ 0] 44)) (.map #[] 0);rw[s1]at this;exact this
 obtain⟨D,hD⟩:∃D,D=drained c l:=⟨_,rfl⟩;obtain⟨O,hO⟩:∃O,O=Zak c l:=⟨_,rfl⟩;have DN:ZaS O.length c O []=D:=by rw[hO];exact hD.symm
 rw[←hD,←hO];obtain⟨Dr,HO⟩:=ZH2 DN hO;clear hD DN hO;obtain⟨TP,HS,HL,HC,HN⟩:=ZH5 RG h hl hc hlen;clear RG h hl hc hlen;have jp:=@run_makeMap prog;go_enter func160,ntmps160;go_wp2_with fail;clear jp;go_loopw [8,22] (λv i wr=>∃q:Nat,q<=n/\i=I_ J_ q/\Hid (DS w wr c (Zak c (l.take q)) v (Zak c (l.take q)))) (λ_ i _=>n-(intOf i).toNat)
 case atStart=>exact⟨0,ZO,rfl,TP⟩
 case round =>
  skip
  obtain⟨q,hq,rfl,HD⟩:=hrel;by_cases du:q<n
  ·obtain⟨e,he⟩:∃e,l[q]? = some e:=⟨_,ZX (by rw[HN.out];exact du)⟩;obtain⟨r5,qi⟩:=HL.out e (ZY he);have hs:=HS.out.of_same (w':=wr) (λad _ hl=>HD.out.kept.below.block _ hl) HD.out.kept.le;obtain⟨bk,off,rfl,cW,c0,c1,c2,c3,c4,c5,c6,c7,c8,c9,dg,dh⟩:=hs.at_ he;have iC:=Zmy c (l.take q) e;rw[←Zan he]at iC;have fy:=ZH iC;have sw:(Zak c (l.take q)).length<=1000000:=by
    have:=ZeP c (l.take q) [];rw[ZV]at this;unfold Zak;simp at this;omega
   clear hs he iC;go_wp2_with fail;refine(Zg6 e _).mono ?_;rintro r w2 ⟨rfl,cD⟩;have jM:=(HD.out.alloc (C_ (evArr e) 89)).below cD;have fW:=(ZBn wr 89 (evArr e)).ob cD;have kQ:=Zev jM.map e.r e.n;obtain⟨Um,rj,lc⟩:=ZH3 HD.out.map.lt jM fW;clear jM fW cD c0 c1 c2 c3 c4 c5 c6 c7 c8 c9 dg dh;rcases nA:ZbR e.r e.n (Zak c (l.take q)) with _|e'
   ·rw[nA]at kQ;have ED:=ZH nA;clear nA;have iM:=rj.out.alloc (C_ Zk 89);have KT:=ZH (lc.out.alloc (C_ Zk 89));obtain⟨k0,k1,k2,k3,k4⟩:=rj.out.clk.aG;have jt:=rj.out.clk.lt;have gX:=lc.out.lt;obtain⟨c0,c1,c2,c3,c4,c5,c6,c7,c8,c9,dg,dh⟩:=lc.out.ag;have jx:=ZH iM;clear iM;go_wp2_with fail;refine(Zku c e.r e.n _ r5).mono ?_;rintro r w4 ⟨rfl,cS⟩;have m7:=jx.out.below cS;obtain⟨wS,rk⟩:=ZH2 (KT.out.ob cS) m7;clear m7 cS c0 c1 c2 c3 c4 c5 c6 c7 c8 c9 dg dh k0 k1 k2 k3 k4 kQ jt gX;rcases oy:c.has e.r e.n with _|_
    ·have kj:Zak c (l.take (q+1))=Zak c (l.take q)++[e]:=by rw[fy.out];unfold ZcG;rw[ED.out,oy];simp
     obtain⟨c0,c1,c2,c3,c4,c5,c6,c7,c8,c9,dg,dh⟩:=wS.out.ag;have gX:=wS.out.lt;have wZ:=ZH kj;have dR:wr.heap.size≠w.heap.size+1+1:=by have:=Um.out;omega
     have xl:=ZH dR;clear kj oy dR;go_wp2_with fail;refine ZSh (λw'=>Blk w' wr.heap.size 89 (evArr e)) [(0,3),(1,0),(3,0),(2,1),(4,1)] (wS.out.drew) λcu=>?_
     repeat((first|refine ZSa ?_|refine ZSb ?_|(refine Zf rfl (by rfl) (λw' cL=>by obtain⟨c0,c1,c2,c3,c4,c5,c6,c7,c8,c9,dg,dh⟩:=cL.ag;go_simp;with_reducible rfl) ?_));simp only[Act.put,ZA,ZB,ZC])
     clear cu c0 c1 c2 c3 c4 c5 c6 c7 c8 c9 dg dh;refine ZSd λK hK=>?_
     go_simp;refine(Zg6 e _).mono ?_;rintro r w5 ⟨rfl,dH⟩;have kg:DS w w5 c (Zak c (l.take q)) u8 (Zak c (l.take q)):=(rk.out.drewN 1).below dH;have xW:=(wS.out.drew).ob dH;refine hK.out (λw'=>Blk w' wr.heap.size 89 (evArr e)) _ _ (λ_ h=>h) xW (λ_=>?_);obtain⟨w6,eV,yk,nP⟩:=Zkb kg.map e ED.out;have tF:=ZH (kg.mapped nP yk);have hltx5:=xW.lt;have N9:=xW.grown nP (by have:=kg.map;intro h;injection h with h;exact xl.out h);have AG:=ZH N9;clear hK K kg yk nP dH xW;refine ZSd λK hK=>?_
     go_simp;refine hK.out (λw'=>Blk w' wr.heap.size 89 (evArr e)) _ _ (λ_ h=>h) AG.out (λ_=>?_);clear hK K eV;refine ZSf ?_;obtain⟨c0,c1,c2,c3,c4,c5,c6,c7,c8,c9,dg,dh⟩:=AG.out.ag;have hltx6:=AG.out.lt;have uN:=tF.out.alloc (C_ (evArr e) 89);have rl:=ZH uN;have eB:=rl.out.kept.le;clear uN;go_wp2_with (at_builtin;refine Zc _ rfl (.tmp 48) (.tmp 50) _ rfl w.heap.size 89 i0 _ 12 112 underlying128 hi dd cV dc rfl ZO u8 (Zak c (l.take q)).length (evCells (Zak c (l.take q))) rfl rl.out.row (w6.heap.size+1) (some ⟨w6.heap.size,0,none⟩) 1 1 (evArr e).toList rfl (Zcj _ _) (ZaT e) ZF ZO eB ?_;intro v8 w8 Aa wt _)
     have uO:=rl.out.aM wt Aa;rw[←wZ.out]at uO;have Es:=ZH uO;clear uO Aa wt;go_roundw
     case rel=>exact⟨q+1,ZO,ZN,Es⟩
     case measure=>simp[intOf];omega
    ·have kj:Zak c (l.take (q+1))=Zak c (l.take q):=by rw[fy.out];unfold ZcG;rw[oy];simp
     have kg:=rk.out;rw[←kj]at kg;have tE:=ZH kg;clear kg kj oy;go_wp2
     go_roundw
     case rel=>exact⟨q+1,ZO,ZN,tE⟩
     case measure=>simp[intOf];omega
   ·rw[nA]at kQ;have kj:Zak c (l.take (q+1))=Zak c (l.take q):=by rw[fy.out];unfold ZcG;rw[nA];simp
    have iM:=rj.out.alloc (C_ (evArr e') 89);rw[←kj]at iM;have jx:=ZH iM;clear nA iM kj;go_wp2
    go_roundw
    case rel=>exact⟨q+1,ZO,ZN,jx⟩
    case measure=>simp[intOf];omega
  ·obtain rfl:q=n:=ZO;have hO:Zak c (l.take q)=O:=by rw[ZU (by rw[HN.out];omega),HO.out]
   have V4:O.length<=q:=by
    have:=ZeP c l [];rw[HO.out];unfold Zak;rw[HN.out]at this;simpa using this
   have jv:∀x∈O,x∈l:=λx hx=>by
    rw[HO.out]at hx;rcases ZeQ c l [] x hx with h|h
    ·cases h
    ·exact h
   have hd:=HD.out;rw[hO]at hd;obtain⟨HD,Bg⟩:=ZH2 hd jv;obtain⟨k0,k1,k2,k3,k4⟩:=HD.out.clk.aG;clear hO hd jv;go_wp2_with fail;refine(ZjV c O _ _ HD.out.map (λi=>by have:=HC.out i;omega)).mono ?_;rintro r w2 ⟨dV,cD⟩;have GB:DL w (w2.alloc (C_ (optArr (Zbq c O)) 89)) c O u8 O (S_ none 0 0) [] w2.heap.size (Zbq c O):=by
    have h0:=HD.out.below cD;refine⟨h0.alloc _,⟨rfl,.inl ⟨rfl,rfl⟩⟩,λg h=>(by cases h),ZBn w2 89 _,λh=>(by cases h),Zh2 h0.row (ZL _),by have:=h0.map.lt;omega⟩
   have rm:=ZH GB;clear GB cD k0 k1 k2 k3 k4;obtain⟨OK,NQ⟩:∃OK:Bool,OK=(Zbq c O).isSome:=⟨_,rfl⟩;have yu:r=R_ (.tuple #[.agg (optArr (Zbq c O)),B_ OK]):=by rw[dV,NQ];cases Zbq c O <;> rfl
   subst yu;have dU:=ZH NQ;generalize hX:Zbq c O=X at *;have HX:=ZH hX;clear dV NQ hX;have hx:optArr X=evArr (X.getD Ev.zero):=rfl;rw[hx]at rm ⊢;have hY:∃Y,Y=X.getD Ev.zero:=⟨_,rfl⟩;obtain⟨Y,hY⟩:=hY;rw[←hY]at rm ⊢;have HY:=ZH hY;clear hx hY;go_wp2_with fail;have kE:=rm.out;have DT:∀i,c.get i+O.length<=1000000:=λi=>by have:=HC.out i;omega
   have Dq:=ZH DT;have Mu:Hid (([]:List Ev).length+O.length<=q):=ZH (by simpa using V4);clear kE DT;go_loopw [4,13,14] (λv4 t ok wr=>∃(c':Clk) (m d:List Ev) (g:Nat) (X:Option Ev),t=P_ (some ⟨g,0,none⟩)/\ok=B_ X.isSome/\Hid (Zbq c' m=X)/\Hid (DL w wr c' m u8 O v4 d g X)/\Hid (ZaS m.length c' m d=D)/\Hid (∀i,c'.get i+m.length<=1000000)/\Hid (∀x∈m,x∈l)/\Hid (d.length+m.length<=q)) (λ_ _ _ wr=>ZhY wr (w.heap.size+1+1))
   case atStart =>
    exact⟨c,O,[],_,X,rfl,by rw[dU.out],HX,rm,Dr,Dq,Bg,Mu⟩
   case round =>
    skip
    obtain⟨c',m,d,g,X,rfl,rfl,HX,rm,Dr,Dq,Bg,Mu⟩:=hrel;rcases X with _|e
    ·have eV:=Zgo (f:=m.length) (d:=d) HX.out;rw[Dr.out]at eV;have TN:=ZH eV.symm;clear eV;have iM:D3 w wr c' m u8 O u4 d (S_ none 0 0) []:=⟨rm.out.ds,rm.out.done,⟨rfl,.inl ⟨rfl,rfl⟩⟩,λg h=>(by cases h),λg h=>(by cases h)⟩;have cT:=rm.out.ds.row;obtain⟨a8,Nn,rfl,CO⟩:=EvSl.ae cT;have h8:=CO.1;have Vm:=CO.2.1;unfold maxLen at Vm;have jx:=ZH iM;clear iM cT CO;go_wp2_with fail;go_loopw [5,82] (λv5 i wx=>∃p:Nat,p<=O.length/\i=I_ J_ p/\Hid (D3 w wx c' m (S_ a8 O.length Nn) O u4 d v5 (Zcp (O.take p) m))) (λ_ i _=>O.length-(intOf i).toNat)
     case atStart=>exact⟨0,ZO,rfl,jx⟩
     case round =>
      skip
      obtain⟨p,hp,rfl,jx⟩:=hrel;by_cases pR:p<O.length
      ·obtain⟨e,he⟩:∃e,O[p]? = some e:=⟨_,ZX pR⟩;have eW:=RowE.sl jx.out.ds.row;obtain⟨bk,off,VI,cW,c0,c1,c2,c3,c4,c5,c6,c7,c8,c9,dg,dh⟩:=eW.at_ he;subst VI;have iC:=Zph (O.take p) m e;rw[←Zan he]at iC;have hllen:(Zcp (O.take p) m).length<=1000000:=by
        have h1:=List.length_filter_le (λe=>(ZbR e.r e.n m).isSome) (O.take p);have h2:(O.take p).length<=p:=by rw[ZV];omega
        unfold Zcp;omega
       have fy:=ZH iC;clear eW he iC;go_wp2_with fail;refine(Zg6 e _).mono ?_;rintro r w2 ⟨rfl,cD⟩;have m7:=(jx.out.alloc (C_ (evArr e) 89)).below cD;have fW:=(ZBn wr 89 (evArr e)).ob cD;have kQ:=Zev m7.ds.map e.r e.n;obtain⟨rk,lc⟩:=ZH2 m7 fW;clear m7 fW cD c0 c1 c2 c3 c4 c5 c6 c7 c8 c9 dg dh;rcases nA:ZbR e.r e.n m with _|e'
       ·rw[nA]at kQ;have sF:Zcp (O.take (p+1)) m=Zcp (O.take p) m:=by rw[fy.out,nA];simp
        have kg:=rk.out.alloc (C_ Zk 89);rw[←sF]at kg;have tE:=ZH kg;clear nA sF kg;go_wp2
        go_roundw
        case rel=>exact⟨u5,by repeat(first|exact⟨⟨p+1,ZO,ZN,tE⟩,rfl⟩|apply Exists.intro)⟩
        case measure=>simp[intOf];omega
       ·rw[nA]at kQ;have sF:Zcp (O.take (p+1)) m=Zcp (O.take p) m++[e]:=by rw[fy.out,nA];simp
        have kg:=(rk.out.alloc (C_ (evArr e') 89)).alloc (C_ (evArr e) 89);obtain⟨c0,c1,c2,c3,c4,c5,c6,c7,c8,c9,dg,dh⟩:=lc.out.ag;have gX:=lc.out.lt;obtain⟨tE,EL⟩:=ZH2 kg sF;have eB:=kg.ds.kept.le;clear nA kg sF;go_wp2_with (at_builtin;refine Zc _ rfl (.tmp 94) (.tmp 96) _ rfl w.heap.size 89 i0 _ 12 112 underlying128 hi dd cV dc rfl ZO u5 (Zcp (O.take p) m).length (evCells (Zcp (O.take p) m)) rfl tE.out.left (w2.heap.size+1+1) (some ⟨w2.heap.size+1,0,none⟩) 1 1 (evArr e).toList rfl (Zej _ _ _) (ZaT e) ZF ZO eB ?_;intro v7 w7 cF db ey)
        have uN:=tE.out.aM db cF ey;rw[←EL.out]at uN;have rl:=ZH uN;clear uN cF db ey;go_roundw
        case rel=>exact⟨v7,_,_,_,_,⟨p+1,ZO,ZN,rl⟩,rfl,rfl,rfl,rfl,rfl⟩
        case measure=>simp[intOf];omega
      ·obtain rfl:p=O.length:=ZO;have iM:=jx.out;rw[List.take_length]at iM;obtain⟨k0,k1,k2,k3,k4⟩:=iM.ds.clk.aG;have jx:=ZH iM;clear iM;have CA:=jx.out.ds.out.lt;have G8:=jx.out.ds.clk.lt;have fo:=jx.out.ds.out.frozen;have f0:=fo 0;have f1:=fo 1;have f2:=fo 2;have f3:=fo 3;have f4:=fo 4;obtain⟨o0,o1,o2,o3,o4⟩:=jx.out.ds.out.aG;clear fo;go_wp2_with fail;refine ZSh (λw'=>Kept wr.heap.size wr w') [(0,3),(1,3),(2,0),(3,3),(4,3),(5,2)] (Kept.drew ⟨ZW _ _,ZL _⟩) λcu=>?_
       repeat((first|refine ZSa ?_|refine ZSb ?_|refine ZSc ?_);simp only[Act.put,ZA,ZB,ZC])
       refine ZSe λK hK=>?_
       go_simp;refine hK.out _ _ ?_;clear hK K;refine ZSf ?_;go_wp2_with fail;have dz:=jx.out.finish;obtain⟨hb,iO,eO,hk⟩:=dz;refine bodyPost_ret (w:=(setAll wr (w.heap.size+1) 0 (clkArr c').toList).drew) (Zf9 rfl rfl rfl rfl (run_loadVar_row _ _ _ _ _ _ _ hb.drew underlying44 rfl ZK)) rfl ?_;rw[←TN.out];exact⟨u4,u5,rfl,iO,eO,jx.out.a54,hk.below.drew⟩
    ·obtain⟨fR,qe,nO,Of⟩:=Zsq HX.out;have Hi:=Zqs qe;have l5:ZaS (ZbY e.r e.n m).length (c'.set e.r (c'.get e.r+1)) (ZbY e.r e.n m) (d++[e])=D:=by
      have h:=Dr.out;have hp:m.length=(m.length-1)+1:=by have:=List.length_pos_of_mem fR;omega
      rw[hp]at h;simp only[ZaS,HX.out]at h;rw[Hi];exact h
     have Gr:∀i,(c'.set e.r (c'.get e.r+1)).get i+(ZbY e.r e.n m).length<=1000000:=λi=>by
      have h1:=Dq.out i;have h2:=List.length_pos_of_mem fR;rw[Hi];by_cases hi:e.r=i
      ·subst hi;rw[Clk.aq _ Of];omega
      ·rw[Clk.ao _ hi];omega
     have hlenpos:=List.length_pos_of_mem fR;obtain⟨TO,El,Qn,oL⟩:=ZH4 l5 Gr Hi qe;have hcb:=Dq.out e.r;have hdq:=Mu.out;clear l5 Gr Hi fR qe nO;obtain⟨c0,c1,c2,c3,c4,c5,c6,c7,c8,c9,dg,dh⟩:=rm.out.box.ag;have Cc:=rm.out.alloc (C_ (evArr e) 89);have Et:=ZH Cc;have eB:=Cc.ds.kept.le;clear Cc
     go_wp2_with (first
      |(at_builtin;refine Zc _ rfl (.tmp 66) (.tmp 68) _ rfl w.heap.size 89 i0 _ 12 112 underlying128 hi dd cV dc rfl ZO u4 d.length (evCells d) rfl Et.out.done (wr.heap.size+1) (some ⟨wr.heap.size,0,none⟩) 1 1 (evArr e).toList rfl (Zcj _ _) (ZaT e) ZF ZO eB ?_;intro v4 w5 mM lq xQ
        have Cd:=Et.out.aM lq mM xQ;clear c0 c1 c2 c3 c4 c5 c6 c7 c8 c9 dg dh;obtain⟨c0,c1,c2,c3,c4,c5,c6,c7,c8,c9,dg,dh⟩:=Cd.box.ag;have K9:=ZH Cd
        clear Cd mM lq xQ))
     refine(Zg6 e _).mono ?_;rintro r w6 ⟨rfl,eK⟩;have Ce:=K9.out.below eK;obtain⟨w7,Iw,zU,db⟩:=Zka Ce.ds.map e.r e.n 0;have pF:=Ce.mapped db zU;have ca:=pF.ds.clk.clk Of;have fa:=pF.ds.clk.frozen e.r;have ot:=pF.ds.clk.lt;have Cf:=pF.bY e.r Of (c'.get e.r+1);have RB:((c'.get e.r+1:Nat):Int)=(c'.get e.r:Int)+1:=ZO;rw[RB]at Cf;clear c0 c1 c2 c3 c4 c5 c6 c7 c8 c9 dg dh;obtain⟨c0,c1,c2,c3,c4,c5,c6,c7,c8,c9,dg,dh⟩:=pF.box.ag;have hglo:=pF.glo;have Ck:=pF.box.lt;have wX:=ZH Cf;clear Ce zU db pF eK Cf RB;have r0:(0:Int)<=(e.r:Int):=ZO;have r5:(e.r:Int)<5:=ZO;go_upto_region 17 with (fail)
     generalize w7.setCell ⟨w.heap.size,e.r,none⟩ (I_ J_ ((c'.get e.r:Int)+1))=w8 at *;clear c0 c1 c2 c3 c4 c5 c6 c7 c8 c9 dg dh ca fa ot Ck Iw;obtain⟨c0,c1,c2,c3,c4,c5,c6,c7,c8,c9,dg,dh⟩:=wX.out.box.ag;obtain⟨k0,k1,k2,k3,k4⟩:=wX.out.ds.clk.aG;have Ew:=ZH (wX.out.ce (x':=some e));have hlt8:=wX.out.ds.clk.lt;have DU:∀i,(c'.set e.r (c'.get e.r+1)).get i<=2000000:=λi=>by have:=El.out i;omega
     have TL:=ZH DU;clear DU;go_wp2_with fail;refine(ZjV _ _ _ _ Ew.out.ds.map TL.out).mono ?_;rintro r iE ⟨nD,px⟩;have pE:=Ew.out.below px;generalize kM:c'.set e.r (c'.get e.r+1)=c2 at *;generalize jP:ZbY e.r e.n m=m2 at *;obtain⟨X2,kJ⟩:∃X2,X2=Zbq c2 m2:=⟨_,rfl⟩;have Ij:r=R_ (.tuple #[.agg (evArr (X2.getD Ev.zero)),B_ X2.isSome]):=by rw[nD,kJ];cases Zbq c2 m2 <;> rfl
     subst Ij;have rz:=pE.bm (x':=X2) (ZnT _ _);have jI:optArr X2=evArr (X2.getD Ev.zero):=rfl;rw[jI]at rz;obtain⟨c0,c1,UY,c3,c4,c5,c6,c7,c8,c9,dg,dh⟩:=pE.box.ag;have fo:=pE.box.frozen;have f0:=fo 0;have f1:=fo 1;have f2:=fo 2;have f3:=fo 3;have f4:=fo 4;have f5:=fo 5;have f6:=fo 6;have f7:=fo 7;have f8:=fo 8;have f9:=fo 9;have f10:=fo 10;have f11:=fo 11;have GZ:=pE.box.lt;have zW:ZhY (setAll iE w8.heap.size 0 (evArr (X2.getD Ev.zero)).toList) (w.heap.size+1+1)<ZhY wr (w.heap.size+1+1):=by
      rw[rz.ds.map.len,rm.out.ds.map.len,Qn.out];omega
     obtain⟨Eu,qa,Up⟩:=ZH3 rz kJ.symm zW;have Ak:∀x∈m2,x∈l:=λx hx=>Bg.out x (Zqt (by rw[jP];exact hx))
     have j7:(d++[e]).length+m2.length<=q:=by rw[Qn.out,ZI];simp;omega
     obtain⟨Fd,Mv⟩:=ZH2 Ak j7;clear nD kJ rz jI fo zW Ak j7 kM jP pE px k0 k1 k2 k3 k4;generalize X2.getD Ev.zero=Y at *;go_wp2
     go_roundw
     case rel=>exact⟨c2,m2,d++[e],w8.heap.size,X2,rfl,rfl,qa,Eu,TO,El,Fd,Mv⟩
     case measure=>exact Up.out
end
def ZeK(es:List Ev)(w:World)(r:Ending)(w':World):Prop:=∃v,r=R_ v/\w'.ownsRow w.heap.size 89 12 v es.length (evCells es)/\L_ w w'
theorem ZpA(w:World):(w.alloc (C_ #[] 89)).ownsRow w.heap.size 89 12 (S_ (some ⟨w.heap.size,0,none⟩) 0 0) 0 (evCells []) :=
 ⟨rfl,.inr ⟨w.heap.size,0,#[],rfl,ZL _,ZBn w 89 #[],ZL _,by unfold maxLen;omega,rfl,rfl⟩⟩
theorem Zmm(h:EvSl w a n cap es)(hn:n<=1000000):Calls prog 124 #[S_ a n cap] w (ZeK es w):=by
 have hlen:=h.2.2.1;have qn:=λ(w:World) (a:Option Addr) (n c n' c':Nat)=>Lib.run_eql_slice_nil (P:=prog) w 128 89 a n c n' c' underlying128
 obtain⟨i0,hi,dd,cV,dc⟩:=info_parts ZbV;rcases a with _|ad
 ·have h0:n=0:=by
   rcases h.2.2.2 with h|⟨b,off,h,_⟩
   ·exact h
   ·cases h
  subst h0;have iz:es=[]:=List.eq_nil_of_length_eq_zero hlen;subst iz;clear h hlen;go_enter func124,ntmps124;go_wp2
  go_ret;exact⟨_,rfl,⟨rfl,.inl ⟨rfl,rfl⟩⟩,ZW _ _⟩
 ·have iT:=ZH (h.reads.alloc (ZL _) (C_ #[] 89));skip;have HO:=ZH (ZpA w);subst hlen;clear h;go_enter func124,ntmps124;go_wp2_with (at_builtin;refine Zc _ rfl (.tmp 5) (.tmp 6) _ rfl w.heap.size 89 i0 _ 12 112 underlying128 hi dd cV dc rfl ZO (S_ (some ⟨w.heap.size,0,none⟩) 0 0) 0 (evCells []) rfl HO.out w.heap.size (some ad) es.length cap (evCells es) rfl iT.out (ZbC _) ZF ZO ZM ?_;intro v4 w4 cJ dL _)
  go_ret;refine⟨v4,rfl,?_,((ZW w.heap.size w).alloc (ZL _) _).grown dL ZM (λg hg=>by injection hg with hg;exact Nat.le_of_eq hg)⟩;simpa [evCells] using cJ
theorem Zr4(n:Nat)(w:World)(hn:n<=1000000):Calls prog 204 #[S_ none 0 0,I_ J_ n] w (ZeK [] w):=by
 obtain⟨i0,hi,dd,cV,dc⟩:=info_parts ZbV;rcases Nat.eq_zero_or_pos n with rfl|hp
 ·go_enter func204,ntmps204;go_wp2
  go_ret;exact⟨_,rfl,⟨rfl,.inl ⟨rfl,rfl⟩⟩,ZW _ _⟩
 ·have eV:=λty=>Lib.run_append_nil_zeros (P:=prog) w 128 3 ty 89 i0 _ .i64 .i64 underlying128 underlying3 hi dd n hp (by rw[cV];omega) ZO (by rw[dc];omega)
  have Kh:n<=grownCap w n 0 89/\grownCap w n 0 89<=maxLen:=⟨grownCap_ge w n 0 89,grownCap_le_maxLen w n 0 89 (by unfold maxLen;omega)⟩;have HR:=ZH eV;clear eV;generalize grownCap w n 0 89=C at *;go_enter func204,ntmps204;go_wp2_with (at_builtin;refine Lib.wpList_append_run _ rfl (.tmp 20) (.tmp 21) _ _ rfl (S_ none 0 0) (I_ J_ n) rfl rfl _ _ (HR.out _) ?_)
  go_ret;refine⟨_,rfl,⟨rfl,.inr ⟨w.heap.size,C,_,rfl,ZL _,ZBn w 89 _,Nat.zero_le _,Kh.2,?_,by simp[evCells]⟩⟩,((ZW w.heap.size w).alloc (ZL _) _).drew⟩;rw[Array.size_append,size_zeroCells,size_zeroCells];simp;omega
def ZeN(l0 l1:List Ev):Nat->List Ev
 | 0=>[]
 | 1=>[]++l0
 |_=>[]++l0++l1
theorem Zqn{a0:Option Addr}{n0 c0:Nat}{l0:List Ev}{a1:Option Addr}{n1 c1:Nat}{l1:List Ev}(hg:Blk w g 128 #[S_ a0 n0 c0,S_ a1 n1 c1])(h0:EvSl w a0 n0 c0 l0)(h1:EvSl w a1 n1 c1 l1)(hn:n0+n1<=1000000):
  Calls prog 178 #[S_ (some ⟨g,0,none⟩) 2 2] w (ZeK (l0++l1) w):=by
 have e0:=h0.2.2.1;have e1:=h1.2.2.1;obtain⟨i0,hi,dd,cV,dc⟩:=info_parts ZbV;have p0:w.cell? ⟨g,0,none⟩=some (S_ a0 n0 c0):=hg.cell 0;have p1:w.cell? ⟨g,1,none⟩=some (S_ a1 n1 c1):=hg.cell 1;have cI:=hg.lt;obtain⟨H0,H1,HG⟩:=ZH3 h0 h1 hg;subst e0 e1;clear h0 h1 hg;go_enter func178,ntmps178;go_wp2_with fail;go_loop [3,11] (λs i=>(s=I_ J_ 0/\i=I_ J_ 0)∨(s=I_ J_ l0.length/\i=I_ J_ 1)∨(s=I_ J_ ((l0.length:Int)+l1.length)/\i=I_ J_ 2)) (λ_ i=>2-(intOf i).toNat)
 case atStart=>exact .inl ⟨rfl,rfl⟩
 case round =>
  rcases hrel with ⟨rfl,rfl⟩|⟨rfl,rfl⟩|⟨rfl,rfl⟩
  ·go_wp2_with fail;go_round
   case rel=>exact .inr (.inl ⟨rfl,rfl⟩)
   case measure=>simp[intOf]
  ·go_wp2_with fail;go_round
   case rel=>exact .inr (.inr ⟨rfl,rfl⟩)
   case measure=>simp[intOf]
  ·go_wp2_with fail;have zE:((l0.length:Int)+(l1.length:Int))=((l0.length+l1.length:Nat):Int):=ZO;rw[zE];refine(Zr4 (l0.length+l1.length) _ hn).mono ?_;rintro r w2 ⟨v2,rfl,dQ,cD⟩;have NI:=HG.out.ob cD;have q0:w2.cell? ⟨g,0,none⟩=some (S_ a0 l0.length c0):=NI.cell 0;have q1:w2.cell? ⟨g,1,none⟩=some (S_ a1 l1.length c1):=NI.cell 1;obtain⟨iX,df⟩:=ZH2 dQ cD;clear p0 p1 NI dQ cD zE;go_wp2_with fail;have cO:Hid (K_ w w2):=ZH (Kept.start df.out);clear q0 q1;go_loopw [6,27] (λv i wr=>∃k:Nat,k<=2/\i=I_ J_ k/\Hid (wr.ownsRow w.heap.size 89 12 v (ZeN l0 l1 k).length (evCells (ZeN l0 l1 k)))/\Hid (K_ w wr)) (λ_ i _=>2-(intOf i).toNat)
   case atStart=>exact⟨0,ZO,rfl,iX,cO⟩
   case round =>
    skip
    obtain⟨k,hk,rfl,HO,HK⟩:=hrel;rcases(by omega:k=0∨k=1∨k=2) with rfl|rfl|rfl
    ·have dk:=HO.out;have fu:=((H0.out.of_same (w':=wr) (λad _ hl=>HK.out.below.block _ hl) HK.out.le)).reads;have q0:wr.cell? ⟨g,0,none⟩=some (S_ a0 l0.length c0):=((HG.out.below HK.out.below cI)).cell 0;have q1:wr.cell? ⟨g,1,none⟩=some (S_ a1 l1.length c1):=((HG.out.below HK.out.below cI)).cell 1;have eB:=HK.out.le;have iT:=ZH fu;have Ck:g<wr.heap.size:=ZO;clear fu dk;go_wp2_with (at_builtin;refine Zc _ rfl (.tmp 31) (.tmp 32) _ rfl w.heap.size 89 i0 _ 12 112 underlying128 hi dd cV dc rfl ZO u6 (ZeN l0 l1 0).length (evCells (ZeN l0 l1 0)) rfl HO.out wr.heap.size a0 l0.length c0 (evCells l0) rfl iT.out (ZbC _) (by simp only[maxLen,ZeN,List.length_nil];omega) (by simp only[ZeN,List.length_nil];omega) eB ?_;intro v7 w7 cF db _)
     have iV:K_ w w7:=⟨HK.out.below.grown db HK.out.le (λk hk=>(Zb HO.out hk).1),ZT HK.out.le db.size⟩;rw[←ZbE,←ZI]at cF;obtain⟨iG,fx⟩:=ZH2 cF iV;clear cF db iV q0 q1;go_roundw
     case rel=>exact⟨1,ZO,rfl,iG,fx⟩
     case measure=>simp[intOf]
    ·have dk:=HO.out;have fu:=((H1.out.of_same (w':=wr) (λad _ hl=>HK.out.below.block _ hl) HK.out.le)).reads;have q0:wr.cell? ⟨g,0,none⟩=some (S_ a0 l0.length c0):=((HG.out.below HK.out.below cI)).cell 0;have q1:wr.cell? ⟨g,1,none⟩=some (S_ a1 l1.length c1):=((HG.out.below HK.out.below cI)).cell 1;have eB:=HK.out.le;have iT:=ZH fu;have Ck:g<wr.heap.size:=ZO;clear fu dk;go_wp2_with (at_builtin;refine Zc _ rfl (.tmp 31) (.tmp 32) _ rfl w.heap.size 89 i0 _ 12 112 underlying128 hi dd cV dc rfl ZO u6 (ZeN l0 l1 1).length (evCells (ZeN l0 l1 1)) rfl HO.out wr.heap.size a1 l1.length c1 (evCells l1) rfl iT.out (ZbC _) (by simp only[maxLen,ZeN,ZI,List.length_nil];omega) (by simp only[ZeN,ZI,List.length_nil];omega) eB ?_;intro v7 w7 cF db _)
     have iV:K_ w w7:=⟨HK.out.below.grown db HK.out.le (λk hk=>(Zb HO.out hk).1),ZT HK.out.le db.size⟩;rw[←ZbE,←ZI]at cF;obtain⟨iG,fx⟩:=ZH2 cF iV;clear cF db iV q0 q1;go_roundw
     case rel=>exact⟨2,ZO,rfl,iG,fx⟩
     case measure=>simp[intOf]
    ·go_wp2
     go_ret;exact⟨u6,rfl,HO.out,HK.out.below⟩
section
abbrev Own:=Nat->Nat
def Own.put(own:Own)(v:Value)(t:Nat):Own:=λb=>if v.ownBlock=some b then t else own b
def Own.at_(own:Own)(g t:Nat):Own:=λb=>if b=g then t else own b
def Fresh(own:Own)(w:World):Prop:=∀b,w.heap.size<=b->own b=0
structure Upd(T:Nat->Prop)(own own':Own)(w w':World):Prop where
 os:w'.os=w.os
 tape:w'.tape=w.tape
 output:w'.output=w.output
 size:w.heap.size<=w'.heap.size
 old:∀b,b<w.heap.size->own' b=own b
 same:∀b,b<w.heap.size->¬T (own b)->w'.heap[b]? = w.heap[b]?
 fresh:Fresh own' w'
section
variable {T:Nat->Prop}{own own' cZ:Own}{w w' w1:World}{t:Nat}
theorem Upd.refl(T:Nat->Prop)(own:Own)(w:World)(hf:Fresh own w):Upd T own own w w:=⟨rfl,rfl,rfl,ZL _,λ_ _=>rfl,λ_ _ _=>rfl,hf⟩
theorem Upd.trans(h:Upd T own cZ w w1)(g:Upd T cZ own' w1 w'):Upd T own own' w w' :=
 ⟨g.os.trans h.os,g.tape.trans h.tape,g.output.trans h.output,ZT h.size g.size,λb hb=>(g.old b (ZR hb h.size)).trans (h.old b hb),
  λb hb hn=>(g.same b (ZR hb h.size) (by rw[h.old b hb];exact hn)).trans (h.same b hb hn),g.fresh⟩
theorem Upd.mono{T':Nat->Prop}(h:Upd T own own' w w')(hT:∀n,T n->T' n):Upd T' own own' w w':=⟨h.os,h.tape,h.output,h.size,h.old,λb hb hn=>h.same b hb (λhh=>hn (hT _ hh)),h.fresh⟩
theorem Upd.below(hb:L_ w w')(hf:Fresh own w):Upd T own own w w':=⟨hb.os,hb.tape,hb.output,hb.size,λ_ _=>rfl,λb h _=>hb.block b h,λb h=>hf b (ZT hb.size h)⟩
abbrev ZUb:=@Upd.below
theorem Upd.kept(h:Upd T own own' w w1)(hb:L_ w1 w'):Upd T own own' w w':=h.trans (ZUb hb h.fresh)
theorem Upd.setAll{p:Nat}(h:Upd T own own' w w1)(hp:p<w.heap.size->T (own p))(i:Nat)(vs:List Value):Upd T own own' w (setAll w1 p i vs):=by
 obtain⟨q1,q2,q3⟩:=ZcB (g:=p) vs i w1;exact⟨q1.trans h.os,q2.trans h.tape,q3.trans h.output,by rw[Za3];exact h.size,h.old,λb hb hn=>(Zai (λe=>hn (by rw[e];exact hp (e▸hb))) vs i w1).trans (h.same b hb hn),λb hb=>h.fresh b (by rw[Za3]at hb;exact hb)⟩
theorem Upd.drew(h:Upd T own own' w w1):Upd T own own' w w1.drew:=⟨h.os,h.tape,h.output,h.size,h.old,h.same,h.fresh⟩
theorem Upd.setCell{p:Addr}(h:Upd T own own' w w1)(hp:p.block<w.heap.size->T (own p.block))(v:Value):Upd T own own' w (w1.setCell p v) :=
 ⟨h.os,h.tape,h.output,by simpa [World.setCell] using h.size,h.old,λb hb hn=>(Below.heap_setCell _ _ _ _ (λe=>hn (by rw[e];exact hp (e▸hb)))).trans (h.same b hb hn),λb hb=>h.fresh b (by simpa [World.setCell] using hb)⟩
theorem Upd.bN(h:Upd T own own' w w1)(hv:∀g,v.ownBlock=some g->w.heap.size<=g/\g<w1.heap.size)(t:Nat):Upd T own (own'.put v t) w w1 :=
 ⟨h.os,h.tape,h.output,h.size,λb hb=>by
  unfold Own.put;rw[ZPn (λe=>by have:=hv b e;omega)];exact h.old b hb,h.same,λb hb=>by
  unfold Own.put;rw[ZPn (λe=>by have:=hv b e;omega)]
  exact h.fresh b hb⟩
theorem Blk.upd{ty:TypeId}{cs:Array Value}(h:Blk w g ty cs)(hu:Upd T own own' w w')(hg:¬T (own g)):Blk w' g ty cs:=(hu.same g h.lt hg).trans h
structure RowAt(own:Own)(t:Nat)(w:World)(v:Value)(es:List Ev):Prop where
 row:w.ownsRow 0 89 12 v es.length (evCells es)
 own:∀g,v.ownBlock=some g->own g=t
theorem RowAt.nil(own:Own)(t:Nat)(w:World):RowAt own t w (S_ none 0 0) []:=⟨⟨rfl,.inl ⟨rfl,rfl⟩⟩,λg h=>by cases h⟩
theorem RowAt.upd(h:RowAt own t w v es)(hu:Upd T own own' w w')(ht:¬T t):RowAt own' t w' v es :=
 ⟨Zi h.row (λg h1 h2=>hu.same g h2 (by rw[h.own g h1];exact ht)),λg hg=>by rw[hu.old g (Zb h.row hg).2];exact h.own g hg⟩
structure Loose(own:Own)(w:World)(a:Option Addr)(n cap:Nat)(es:List Ev):Prop where
 sl:EvSl w a n cap es
 own:∀ad,a=some ad->own ad.block=0/\ad.block<w.heap.size
theorem RowAt.loose(h:RowAt own 0 w v es):∃a cap,v=S_ a es.length cap/\Loose own w a es.length cap es:=by
 obtain⟨a,cap,rfl,hs⟩:=EvSl.ae h.row;refine⟨a,cap,rfl,hs,λad e=>?_⟩;subst e;exact⟨h.own _ rfl,(Zb h.row rfl).2⟩
theorem Loose.upd(h:Loose own w a n cap es)(hu:Upd T own own' w w')(h0:¬T 0):Loose own' w' a n cap es :=
 ⟨h.sl.of_same (λad e hl=>hu.same _ hl (by rw[(h.own ad e).1];exact h0)) hu.size,λad e=>⟨by rw[hu.old _ (h.own ad e).2];exact(h.own ad e).1,ZR (h.own ad e).2 hu.size⟩⟩
end
end
abbrev inArr(most:Nat)(c:Clk)(vh:Value):Array Value:=#[I_ J_ most,I_ J_ c.c0,I_ J_ c.c1,I_ J_ c.c2,I_ J_ c.c3,I_ J_ c.c4,vh]
structure InboxAt(own:Own)(t:Nat)(w:World)(p:Nat)(most:Nat)(c:Clk)(held:List Ev):Prop where
 mine:own p=t
 ex:∃vh,Blk w p 218 (inArr most c vh)/\RowAt own t w vh held
theorem InboxAt.upd{T:Nat->Prop}{own own':Own}{w w':World}{t p most:Nat}{c:Clk}{held:List Ev}(h:InboxAt own t w p most c held)(hu:Upd T own own' w w')(ht:¬T t):InboxAt own' t w' p most c held:=by
 obtain⟨h1,vh,h2,h3⟩:=h;exact⟨by rw[hu.old p h2.lt];exact h1,vh,h2.upd hu (by rw[h1];exact ht),h3.upd hu ht⟩
theorem Blk.seven{v0 v4 v5 v6:Value}(h:Blk w g t #[v0,v1,v2,v3,v4,v5,v6]):w.cell? ⟨g,0,none⟩=some v0/\w.cell? ⟨g,1,none⟩=some v1/\w.cell? ⟨g,2,none⟩=some v2/\w.cell? ⟨g,3,none⟩=some v3/\w.cell? ⟨g,4,none⟩=some v4/\w.cell? ⟨g,5,none⟩=some v5/\w.cell? ⟨g,6,none⟩=some v6 :=
 ⟨h.cell 0,h.cell 1,h.cell 2,h.cell 3,h.cell 4,h.cell 5,h.cell 6⟩
theorem ZqH(most:Nat)(c:Clk)(w:World):Calls prog 129 #[I_ J_ most,Zbh c] w λr w'=>∃p,r=R_ (P_ (some ⟨p,0,none⟩))/\w.heap.size<=p/\Blk w' p 218 (inArr most c (S_ none 0 0))/\L_ w w':=by
 go_enter func129,ntmps129;go_wp2
 go_ret;exact⟨w.heap.size+1,rfl,ZO,Zag w _ _ _,ZbT _ _ _⟩
theorem ZeS{own:Own}{t:Nat}(h:InboxAt own t w p most c held):Calls prog 65 #[P_ (some ⟨p,0,none⟩)] w (Zx (Zbh c) w):=by
 obtain⟨_,vh,hb,_⟩:=h;obtain⟨c0,c1,c2,c3,c4,c5,c6⟩:=hb.seven;have cI:=hb.lt;clear hb;go_enter func65,ntmps65;go_wp2_with fail;refine bodyPost_end (Z6 rfl rfl (run_loadVar_row _ _ _ _ _ _ _ (ZBn _ _ _) underlying44 rfl ZK)) rfl ?_;exact⟨rfl,(ZW _ _).alloc (ZL _) _⟩
theorem Zpc{own:Own}{t:Nat}(h:InboxAt own t w p most c held)(hn:held.length<=1000000):Calls prog 78 #[P_ (some ⟨p,0,none⟩)] w (ZeK held w):=by
 obtain⟨_,vh,hb,hr⟩:=h;obtain⟨c0,c1,c2,c3,c4,c5,c6⟩:=hb.seven;have cI:=hb.lt;obtain⟨ah,BF,rfl,hs⟩:=EvSl.ae hr.row;have HS:=ZH hs;clear hb hr hs;go_enter func78,ntmps78;go_wp2_with fail;refine(Zmm HS.out hn).mono ?_;rintro r w1 ⟨v1,rfl,fF,cz⟩;obtain⟨HO,HB⟩:=ZH2 fF cz;clear fF cz;go_wp2
 go_ret;exact⟨v1,rfl,HO.out,HB.out⟩
theorem ZpB{B:Nat}(h:w.ownsRow B 89 12 v es.length (evCells es))(hg:g<B)(i:Nat)(vs:List Value):(setAll w g i vs).ownsRow B 89 12 v es.length (evCells es) :=
 Zi h (λk h1 _=>Zai (by have:=(Zb h h1).1;omega) vs i w)
def ZkR(c:Clk)(l:List Ev)(w:World)(r:Ending)(w':World):Prop:=∃v1 v2,r=R_ (.tuple #[v1,v2,Zbh (drained c l).2.2]) /\
 w'.ownsRow w.heap.size 89 12 v1 (drained c l).1.length (evCells (drained c l).1)/\w'.ownsRow w.heap.size 89 12 v2 (Zcp (Zak c l) (drained c l).2.1).length (evCells (Zcp (Zak c l) (drained c l).2.1))/\Apart v2 v1/\L_ w w'
theorem ZiR{vh:Value}(hb:Blk w p 218 (inArr most c vh))(hs:EvSl w a n cap l)(hl:∀e∈l,e.r<5/\1<=e.n)(hc:∀i,c.get i+n<=1000000):
  Calls prog 117 #[P_ (some ⟨p,0,none⟩),S_ a n cap] w (ZkR c l w):=by
 obtain⟨c0,c1,c2,c3,c4,c5,c6⟩:=hb.seven;have cI:=hb.lt;obtain⟨HS,HL,HC,A5⟩:=ZH4 (hs.below ((ZW w.heap.size w).alloc (ZL _) (C_ #[I_ J_ 0,I_ J_ 0,I_ J_ 0,I_ J_ 0,I_ J_ 0] 44))) hl hc (ZBn w 44 #[I_ J_ 0,I_ J_ 0,I_ J_ 0,I_ J_ 0,I_ J_ 0]);clear hb hs hl hc;go_enter func117,ntmps117;go_wp2_with fail;refine(Zqr c l _ _ _ _ HS.out HL.out HC.out).mono ?_;rintro r w1 ⟨v1,v2,rfl,eG,dV,mZ,cz⟩;have nU:=ZH mZ;have pO:=A5.out.ob cz;have Cy:=pO.lt;have fo:=pO.frozen;have f0:=fo 0;have f1:=fo 1;have f2:=fo 2;have f3:=fo 3;have f4:=fo 4;obtain⟨k0,k1,k2,k3,k4⟩:=pO.aG;obtain⟨rq,fO,fP,dj⟩:=ZH4 pO eG dV cz;clear pO eG dV cz fo c0 c1 c2 c3 c4 c5 c6;obtain⟨D,hD⟩:∃D,D=drained c l:=⟨_,rfl⟩;have HD:=ZH hD;rw[←hD]at fO fP ⊢;clear hD;go_wp2_with fail;have dz:=Zal (vs:=clkArr D.2.2) rq.out rfl;have cT:=λ(v:Value) (es:List Ev) (h:w1.ownsRow (w.alloc (C_ #[I_ J_ 0,I_ J_ 0,I_ J_ 0,I_ J_ 0,I_ J_ 0] 44)).heap.size 89 12 v es.length (evCells es))=>ZpB h (g:=w.heap.size) ZM 0 (clkArr D.2.2).toList
 have m8:=Zaf ((ZKr w).alloc _ |>.step dj.out) (g:=w.heap.size) (ZL _) 0 (clkArr D.2.2).toList;refine bodyPost_end (w:=setAll w1 w.heap.size 0 (clkArr D.2.2).toList) (Zf9 rfl rfl rfl rfl (run_loadVar_row _ _ _ _ _ _ _ dz underlying44 rfl ZK)) rfl ?_;unfold ZkR;rw[←HD.out];exact⟨v1,v2,rfl,Zj (cT _ _ fO.out) ZM,Zj (cT _ _ fP.out) ZM,nU.out,m8.below⟩
theorem EvSl.one(h:Blk W g 89 (evArr e)):EvSl W (some ⟨g,0,none⟩) 1 1 [e]:=by
 refine⟨ZL _,by unfold maxLen;omega,rfl,.inr ⟨g,0,rfl,h.lt,λi x hx j hj=>?_⟩⟩;have hi:i=0:=by
  have:=(ZZ.1 hx).1;simpa using this
 subst hi;have:x=e:=by simpa using hx.symm
 subst this;rw[h.cell];simp
theorem Zk9{c':Clk}{vh:Value}(h:Blk W p 218 (inArr most c vh)):Blk (setAll W p 1 (clkArr c').toList) p 218 (inArr most c' vh) :=
 Zbr (clkArr c').toList 1 W [I_ J_ most,I_ J_ c.c0,I_ J_ c.c1,I_ J_ c.c2,I_ J_ c.c3,I_ J_ c.c4,vh] h ZM
theorem ZqI{own:Own}{t:Nat}(h:InboxAt own t w p most c held)(hf:Fresh own w)(e:Ev)(he:e.r<5/\1<=e.n)(hc:∀i,c.get i+1<=1000000)(hd:(drained c [e]).1≠[]):
  Calls prog 69 #[P_ (some ⟨p,0,none⟩),Zaj e] w λr w'=>r=R_ (I_ J_ 0)/\InboxAt own t w' p most (drained c [e]).2.2 held/\Upd (· = t) own own w w':=by
 obtain⟨hm,vh,hb,hr⟩:=h;have cI:=hb.lt;have cD:=(hb.alloc (C_ (evArr e) 89)).alloc (C_ (evArr e) 89);have eW:=EvSl.one (Zag w (C_ (evArr e) 89) 89 (evArr e));have hK:=((ZKr w).alloc (C_ (evArr e) 89)).alloc (C_ (evArr e) 89);obtain⟨D,hD⟩:∃D,D=drained c [e]:=⟨_,rfl⟩;rw[←hD]at hd ⊢;have eN:((D.1.length:Int)==0)=false:=by
  have:0<D.1.length:=List.length_pos_iff.2 hd;simp;omega
 obtain⟨KQ,df,jV,HK,HD,HC,HM,HR,HF⟩:=ZH9 hb cD eW hK hD hc hm hr hf;clear hb cD eW hK hd hD hc hm hr hf;go_enter func69,ntmps69;go_wp2_with fail;refine(ZiR df.out jV.out (by intro x hx;obtain rfl:x=e:=(by simpa using hx);exact he) HC.out).mono ?_;rintro r w3 ⟨v1,v2,rfl,eG,_,_,cG⟩;rw[←HD.out]at eG ⊢;obtain⟨a1,BE,rfl,_⟩:=EvSl.ae eG;have jC:=df.out.ob cG;have cU:=ZH (HK.out.step cG);have G8:=jC.lt;have fo:=jC.frozen;have f1:=fo 1;have f2:=fo 2;have f3:=fo 3;have f4:=fo 4;have f5:=fo 5;obtain⟨c0,c1,c2,c3,c4,c5,c6⟩:=jC.seven;have rU:=ZH jC;clear eG cG jC fo;go_wp2_with fail;have dt:Upd (· = t) own own w w3:=ZUb cU.out.below HF.out;have cN:Upd (· = t) own own w (setAll w3 p 1 (clkArr D.2.2).toList):=dt.setAll (λ_=>HM.out) 1 _;have cM:Upd (· = t) own own w ((setAll w3 p 1 (clkArr D.2.2).toList).alloc (C_ (clkArr D.2.2) 44)):=cN.kept ((ZW _ _).alloc (ZL _) _);have cz:=(Zk9 (c':=D.2.2) rU.out).alloc (C_ (clkArr D.2.2) 44);have dV:RowAt own t ((setAll w3 p 1 (clkArr D.2.2).toList).alloc (C_ (clkArr D.2.2) 44)) vh held :=
  ⟨Zi HR.out.row (λg h1 h2=>(Below.heap_alloc _ _ _ (by rw[Za3];exact ZR h2 cU.out.below.size)).trans ((Zai (λe=>Zr HR.out.row KQ.out ZJ (by rw[h1,e])) _ _ _).trans (cU.out.below.block g h2))),HR.out.own⟩
 go_ret;exact⟨rfl,⟨HM.out,vh,cz,dV⟩,cM⟩
def ZcI(c:Clk)(l:List Ev):List Ev:=Zcp (Zak c l) (drained c l).2.1
theorem Zpb{c':Clk}{vh vh':Value}(h:Blk W p 218 (inArr most c vh)):Blk ((setAll W p 1 (clkArr c').toList).setCell ⟨p,6,none⟩ vh') p 218 (inArr most c' vh'):=by
 have h1:=(Zk9 (c':=c') h).aj 6 vh';simpa using h1
theorem Zpd{own:Own}{t:Nat}(h:InboxAt own t w p most c held)(hf:Fresh own w)(hs:EvSl w a n cap l)(hl:∀e∈held++l,e.r<5/\1<=e.n)(hc:∀i,c.get i+(held.length+n)<=1000000):
  Calls prog 143 #[P_ (some ⟨p,0,none⟩),S_ a n cap] w λr w' =>
   (most<(ZcI c (held++l)).length/\r=R_ (.tuple #[S_ none 0 0,I_ J_ 22])/\Below w.heap.size w w') ∨
   ((ZcI c (held++l)).length<=most/\∃v own',r=R_ (.tuple #[v,I_ J_ 0])/\RowAt own' 0 w' v (drained c (held++l)).1/\InboxAt own' t w' p most (drained c (held++l)).2.2 (ZcI c (held++l))/\Upd (· = t) own own' w w'):=by
 obtain⟨hm,vh,hb,hr⟩:=h;have cI:=hb.lt;obtain⟨c0,c1,c2,c3,c4,c5,c6⟩:=hb.seven;have Ko:=hc 0;have gb:=ZH (hs.2.2.1);obtain⟨ah,BF,rfl,im⟩:=EvSl.ae hr.row;have hg:=ZBn w 128 #[S_ ah held.length BF,S_ a n cap];have cP:=(ZW w.heap.size w).alloc (ZL _) (C_ #[S_ ah held.length BF,S_ a n cap] 128);obtain⟨fZ,MK⟩:=ZH2 (hs.below cP) (im.below cP);have cD:=hb.ob cP;obtain⟨DD,DN⟩:∃DD,DD=drained c (held++l):=⟨_,rfl⟩;obtain⟨LF,NM⟩:∃LF,LF=ZcI c (held++l):=⟨_,rfl⟩;rw[←DN,←NM];obtain⟨Dr,EL⟩:=ZH2 DN.symm NM.symm;clear DN NM;obtain⟨HG,df,HL,HC,HM,HF,eh⟩:=ZH7 hg cD hl hc hm hf cP;clear hg cD hl hc hm hf cP hs im hr hb;go_enter func143,ntmps143;go_wp2_with fail;refine(Zqn HG.out MK.out fZ.out ZO).mono ?_;rintro r w2 ⟨v2,rfl,dV,cD⟩;obtain⟨a2,dy,rfl,ju⟩:=EvSl.ae dV;obtain⟨dN,cO,fB⟩:=ZH3 (df.out.ob cD) ((Kept.start eh.out).step cD) ju;clear dV ju cD c0 c1 c2 c3 c4 c5 c6;have AU:Hid ((held++l).length=held.length+n):=ZH (by rw[ZI,gb.out]);generalize (held++l).length=N at *;go_wp2_with fail;refine(ZiR dN.out fB.out HL.out (by rw[AU.out];exact HC.out)).mono ?_;rintro r w4 ⟨v1,v3,rfl,eG,fd,mZ,cS⟩;have jC:=dN.out.ob cS;have dw:=ZH (cO.out.step cS);have N7:=jC.alloc (C_ (clkArr DD.2.2) 44);have G8:=jC.lt;have fo:=jC.frozen;have f1:=fo 1;have f2:=fo 2;have f3:=fo 3;have f4:=fo 4;have f5:=fo 5;have f6:=fo 6;obtain⟨c0,c1,c2,c3,c4,c5,c6⟩:=jC.seven;rw[Dr.out]at eG ⊢;have sF:Zcp (Zak c (held++l)) (drained c (held++l)).2.1=LF:=EL.out;rw[sF]at fd;obtain⟨a3,dK,rfl,_⟩:=EvSl.ae fd;obtain⟨rU,fO,fk,nU,Bh⟩:=ZH5 jC eG fd mZ cO.out.below.size;clear jC N7 fo eG fd mZ cS sF;rcases Nat.lt_or_ge most LF.length with nw|qR
 ·have hd:decide (most<LF.length)=true:=ZP;go_wp2_with fail;go_ret2
  exact .inl ⟨nw,rfl,(dw.out.alloc _).below⟩
 ·have hd:decide (most<LF.length)=false:=ZP;go_wp2_with fail;have dS:=Bh.out;have e1:((setAll w4 p 1 (clkArr DD.2.2).toList).setCell ⟨p,6,none⟩ (S_ a3 LF.length dK)).heap.size=w4.heap.size:=by simp only[World.setCell,Array.size_modify];exact Za3 _ _ _
  have e2:w4.heap.size<=(((setAll w4 p 1 (clkArr DD.2.2).toList).setCell ⟨p,6,none⟩ (S_ a3 LF.length dK)).alloc (C_ (clkArr DD.2.2) 44)).heap.size:=by
   have h:=((ZW _ ((setAll w4 p 1 (clkArr DD.2.2).toList).setCell ⟨p,6,none⟩ (S_ a3 LF.length dK))).alloc (ZL _) (C_ (clkArr DD.2.2) 44)).size;rw[e1]at h;exact h
  have far:∀g,g<w4.heap.size->g≠p->(((setAll w4 p 1 (clkArr DD.2.2).toList).setCell ⟨p,6,none⟩ (S_ a3 LF.length dK)).alloc (C_ (clkArr DD.2.2) 44)).heap[g]? = w4.heap[g]? := λg hg dR =>
   (Below.heap_alloc _ _ _ (by rw[e1];exact hg)).trans ((Below.heap_setCell _ _ _ _ dR).trans (Zai dR _ _ _))
  have hu:Upd (· = t) own own w (((setAll w4 p 1 (clkArr DD.2.2).toList).setCell ⟨p,6,none⟩ (S_ a3 LF.length dK)).alloc (C_ (clkArr DD.2.2) 44)) :=
   (((ZUb dw.out.below HF.out).setAll (λ_=>HM.out) 1 (clkArr DD.2.2).toList).setCell (p:=⟨p,6,none⟩) (λ_=>HM.out) (S_ a3 LF.length dK)).kept ((ZW _ _).alloc (ZL _) _)
  have r1:∀g,v1.ownBlock=some g->w.heap.size<=g/\g<w4.heap.size:=λg hg=>by have:=Zb fO.out hg;omega
  have r3:∀g,(Value.slice a3 LF.length dK).ownBlock=some g->w.heap.size<=g/\g<w4.heap.size:=λg hg=>by have:=Zb fk.out hg;omega
  have dH:=(Zpb (c':=DD.2.2) (vh' := S_ a3 LF.length dK) rU.out).alloc (C_ (clkArr DD.2.2) 44);have cM:=hu.bN (v := S_ a3 LF.length dK) (λg hg=>⟨(r3 g hg).1,ZR (r3 g hg).2 e2⟩) t;have PD:RowAt (own.put (S_ a3 LF.length dK) t) 0 (((setAll w4 p 1 (clkArr DD.2.2).toList).setCell ⟨p,6,none⟩ (S_ a3 LF.length dK)).alloc (C_ (clkArr DD.2.2) 44)) v1 DD.1 :=
   ⟨Zj (Zi fO.out (λg h1 h2=>far g h2 (by have:=(r1 g h1).1;omega))) (Nat.zero_le _),λg hg=>by
    unfold Own.put;rw[ZPn (λe=>nU.out g e hg)]
    exact HF.out g (r1 g hg).1⟩
  have PE:RowAt (own.put (S_ a3 LF.length dK) t) t (((setAll w4 p 1 (clkArr DD.2.2).toList).setCell ⟨p,6,none⟩ (S_ a3 LF.length dK)).alloc (C_ (clkArr DD.2.2) 44)) (S_ a3 LF.length dK) LF :=
   ⟨Zj (Zi fk.out (λg h1 h2=>far g h2 (by have:=(r3 g h1).1;omega))) (Nat.zero_le _),λg hg=>by
    unfold Own.put
    rw[ZPp hg]⟩
  have fY:(own.put (S_ a3 LF.length dK) t) p=t:=by
   unfold Own.put;split
   ·rfl
   ·exact HM.out
  go_ret2
  exact .inr ⟨qR,v1,_,rfl,PD,⟨fY,_,dH,PE⟩,cM⟩
end Go.Proofs.YtjkfognelhiepaaGreat
