import Derived.Test.YtjkfognelhiepaaGreatC02
import Derived.WideKeyRuns
import Derived.MapKept
import Derived.ChangeKeysEq
import Derived.Laws.StructEq
namespace Go.Proofs.YtjkfognelhiepaaGreat
open Go.RowKit _root_.Go.Proofs.Tryz
set_option maxRecDepth 100000
set_option maxHeartbeats 8000000
section
theorem Zot(v:ByteArray)(w:World)(h1:1<=v.size)(h2:v.size<=12):Calls prog 149 #[.string v] w (Zv (.int .i64 0) w) :=
 (ZlX v w h1 h2).mono λ e w' h=>⟨h.1,by rw[←h.2];exact ZW _ _⟩
theorem ZcB{w w1 w2:World}{row:Option Nat}(h:w.grownBy w1 row)(g:w1.grownBy w2 row):w.grownBy w2 row :=
 ⟨g.os.trans h.os,g.tape.trans h.tape,g.output.trans h.output,ZT h.size g.size,λ k hk hr=>(g.block k (ZR hk h.size) hr).trans (h.block k hk hr)⟩
theorem Zgc(w:World)(row:Option Nat):w.grownBy w row:=⟨rfl,rfl,rfl,ZL _,λ _ _ _=>rfl⟩
theorem ZhQ{w W:World}{row:Option Nat}(h:w.grownBy W row)(o:Obj):w.grownBy (W.alloc o) row :=
 ⟨h.os,h.tape,h.output,ZT h.size ZM,λ k hk hr=>(Below.heap_alloc _ _ _ (ZR hk h.size)).trans (h.block k hk hr)⟩
theorem Zlg{w W:World}{row:Option Nat}(h:w.grownBy W row){p:Addr}(hp:w.heap.size<=p.block)(v:Value):w.grownBy (W.setCell p v) row :=
 ⟨h.os,h.tape,h.output,ZT h.size (by simp[World.setCell]),λ k hk hr=>(Below.heap_setCell _ _ _ _ ZO).trans (h.block k hk hr)⟩
abbrev Ev.zero:Ev:=⟨0,0,ZCz,0,0,⟨#[]⟩,0,⟨#[]⟩⟩
def Zfy(c:Clk)(r:Nat):Nat->Clk
 | 0=>ZCz
 | k+1=>if k=r then Zfy c r k else(Zfy c r k).set k (c.get k)
theorem Zqd(c:Clk){r:Nat}(h:r<5):(Zfy c r 5).set r (c.get r)=c:=by
 match r,h with
 | 0,_=>rfl
 | 1,_=>rfl
 | 2,_=>rfl
 | 3,_=>rfl
 | 4,_=>rfl
theorem ZhH(c:Clk)(r:Nat)(k:Nat):∀ (m:Nat),k<=m->∃ t,Zam c r m=Zam c r k++t
 | 0,h=>⟨[],by
  obtain rfl:k=0:=ZO
  simp⟩
 | m+1,h=>by
  rcases Nat.eq_or_lt_of_le h with rfl | h'
  ·exact⟨[],ZM⟩
  ·obtain⟨t,ht⟩:=ZhH c r k m ZO;exact⟨t++(if m=r then [] else Zd (c.get m)),by rw[Zam,ht,List.append_assoc]⟩
theorem ZjV(e:Ev){k:Nat}(h:k<5)(v:Nat):(evArr e).setIfInBounds (2+k) (.int .i64 (v:Int))=evArr { e with ctx:=e.ctx.set k v }:=by
 match k,h with
 | 0,_=>rfl
 | 1,_=>rfl
 | 2,_=>rfl
 | 3,_=>rfl
 | 4,_=>rfl
structure FS(w W:World)(pe pu pb:Nat)(a:Option Addr)(n cap:Nat)(l:List Nat)(p:List Nat)(g6 g7:Nat)(cur:Ev):Prop where
 rd:Rd W pe pu pb a n cap l p.length
 box:Blk W g7 89 (evArr cur)
 out:Blk W g6 89 (evArr Ev.zero)
 grown:w.grownBy W (some pu)
 plt:pu<w.heap.size
 lo6:w.heap.size<=g6
 lo7:w.heap.size<=g7
 ne:g6≠g7
 old:pe<w.heap.size/\pb<w.heap.size/\∀ ad,a=some ad->ad.block<w.heap.size
section
variable {w W W':World}{pe pu pb:Nat}{a:Option Addr}{n cap:Nat}{l p q:List Nat}{g6 g7:Nat}{cur cur':Ev}
theorem FS.read(h:FS w W pe pu pb a n cap l p g6 g7 cur)(hg:W.grownBy W' (some pu))(hr:Rd W' pe pu pb a n cap l (p.length+q.length)):FS w W' pe pu pb a n cap l (p++q) g6 g7 cur :=
 ⟨by rw[ZI];exact hr,h.box.grown hg (by have:=h.plt;have:=h.lo7;intro e;injection e;omega),h.out.grown hg (by have:=h.plt;have:=h.lo6;intro e;injection e;omega),ZcB h.grown hg,h.plt,h.lo6,h.lo7,h.ne,h.old⟩
theorem Rd.far{pos:Nat}(h:Rd W pe pu pb a n cap l pos){g j:Nat}(v:Value)(h1:pe≠g)(h2:pu≠g)(h3:pb≠g)(h4:∀ ad,a=some ad->ad.block≠g):Rd (W.setCell ⟨g,j,none⟩ v) pe pu pb a n cap l pos:=by
 refine⟨h.err.far h1 v,h.used.far h2 v,h.buf.far h3 v,⟨h.bytes.1,h.bytes.2.1,?_⟩,h.apart,h.ne1,h.ne2,h.small⟩;rcases h.bytes.2.2 with h' | ⟨b,off,e1,e4,e5,e6⟩
 ·exact .inl h'
 ·exact .inr ⟨b,off,e1,by simpa [World.setCell] using e4,e5,λ i hi=>(World.cell?_of_block (w:=W) (Below.heap_setCell _ _ _ _ (h4 _ e1))).trans (e6 i hi)⟩
theorem FS.write(h:FS w W pe pu pb a n cap l p g6 g7 cur)(j:Nat)(v:Value)(he:(evArr cur).setIfInBounds j v=evArr cur'):FS w (W.setCell ⟨g7,j,none⟩ v) pe pu pb a n cap l p g6 g7 cur':=by
 have h7:=h.lo7;have hp:=h.plt;have ho:=h.old;refine⟨h.rd.far v ZO ZO ZO (λ ad e=>by have:=ho.2.2 ad e;omega),?_,h.out.far h.ne v,Zlg h.grown h7 v,hp,h.lo6,h7,h.ne,ho⟩;have hb:=h.box.ai j v;rw[he] at hb;exact hb
theorem FS.finish(h:FS w W pe pu pb a n cap l p g6 g7 cur):Blk (setAll W g6 0 (evArr cur).toList) g6 89 (evArr cur)/\Rd (setAll W g6 0 (evArr cur).toList) pe pu pb a n cap l p.length/\w.grownBy (setAll W g6 0 (evArr cur).toList) (some pu):=by
 have h6:=h.lo6;have hp:=h.plt;have hs:(evArr cur).size=(evArr Ev.zero).size:=ZM;have ho:=h.out;generalize evArr Ev.zero=z at ho hs;generalize evArr cur=A at hs ⊢;refine⟨Zaw ho hs,?_,ZlN h.grown h6 _ _⟩;have ho:=h.old;have far:=λ(k:Nat) (hk:k≠g6)=>Zaj hk A.toList 0 W
 refine⟨(far pe ZO).trans h.rd.err,(far pu ZO).trans h.rd.used,(far pb ZO).trans h.rd.buf,⟨h.rd.bytes.1,h.rd.bytes.2.1,?_⟩,h.rd.apart,h.rd.ne1,h.rd.ne2,h.rd.small⟩;rcases h.rd.bytes.2.2 with h' | ⟨b,off,e1,e4,e5,e6⟩
 ·exact .inl h'
 ·exact .inr ⟨b,off,e1,by rw[ZaR];exact e4,e5,λ i hi=>(World.cell?_of_block (w:=W) (far b (by have:=ho.2.2 _ e1;show b≠g6;simp at this;omega))).trans (e6 i hi)⟩
theorem FS.cells(h:FS w W pe pu pb a n cap l p g6 g7 cur):W.cell? ⟨g7,0,none⟩=some (.int .i64 cur.r)/\W.cell? ⟨g7,1,none⟩=some (.int .i64 cur.n)/\W.cell? ⟨g7,8,none⟩=some (.int .i64 cur.kind)/\g7<W.heap.size/\g6<W.heap.size/\(∀ j,W.frozen? ⟨g7,j,none⟩=false) :=
 ⟨h.box.cell 0,h.box.cell 1,h.box.cell 8,h.box.lt,h.out.lt,h.box.frozen⟩
theorem ZfF{l p q m:List Nat}(h:l=p++(q++m)):l.drop p.length=q++m:=by rw[h];exact List.drop_left
theorem Zg0{l p m:List Nat}{c:Nat}(h:l=p++(c::m)):l[p.length]? = some c:=by rw[h];simp
end
theorem Zno{w:World}{pe pu pb:Nat}{a:Option Addr}{n cap:Nat}{l:List Nat}(e:Ev)(he:e.Ok)(rest:List Nat)(hl:l=evBytes e++rest)(hs:∀ x∈l,x<256)(h:Rd w pe pu pb a n cap l 0):
  Calls prog 232 #[.func (.func 229) #[] #[.pointer (some ⟨pe,0,none⟩),.pointer (some ⟨pu,0,none⟩),.pointer (some ⟨pb,0,none⟩)],.func (.func 230) #[] #[.pointer (some ⟨pe,0,none⟩),.pointer (some ⟨pb,0,none⟩),.pointer (some ⟨pu,0,none⟩)],.func (.func 231) #[] #[.pointer (some ⟨pe,0,none⟩),.pointer (some ⟨pb,0,none⟩),.pointer (some ⟨pu,0,none⟩)]] w
   λ r w'=>r = .returned (Zaa e)/\Rd w' pe pu pb a n cap l (evBytes e).length/\w.grownBy w' (some pu):=by
 have tW:0<n:=by
  have:=h.bytes.len;rw[hl] at this;simp[evBytes] at this;omega
 obtain⟨b,off,ha,cQ,_⟩:=h.bytes.pos tW;have iC:pe<w.heap.size/\pb<w.heap.size/\∀ ad,a=some ad->ad.block<w.heap.size:=⟨h.err.lt,h.buf.lt,λ ad e=>by rw[ha] at e;injection e with e;subst e;exact cQ⟩;have uK:pu<w.heap.size:=h.used.lt;have k1:=he.edit.kind1;have k5:=he.edit.kind5;have r5:=he.r;have n1:=he.n1;have n2:=he.n2;have h1:=he.h1;have h2:=he.h2;have HE:=ZH he;have m1:l=[]++(e.kind::(e.r::(Zd e.n++(Zam e.ctx e.r 5++(Zd e.height++(e.key.size::(bs e.key++(ZbK e++rest)))))))):=by rw[hl];simp[evBytes]
 have m2:l=[e.kind]++(e.r::(Zd e.n++(Zam e.ctx e.r 5++(Zd e.height++(e.key.size::(bs e.key++(ZbK e++rest))))))):=by rw[hl];simp[evBytes]
 have m3:l=[e.kind,e.r]++(Zd e.n++(Zam e.ctx e.r 5++(Zd e.height++(e.key.size::(bs e.key++(ZbK e++rest)))))):=by rw[hl];simp[evBytes]
 obtain⟨M1,M2,M3,HS,HL,sJ,HA,vm⟩:=ZH8 m1 m2 m3 hs hl iC (h.below ((ZW w.heap.size w).alloc (ZL _) (.cells (evArr Ev.zero) 89))) (ZBn w 89 (evArr Ev.zero));have Nl:Hid (w.grownBy (w.alloc (.cells (evArr Ev.zero) 89)) (some pu)):=ZH (ZhQ (Zgc w _) _);clear hl hs m1 m2 m3 he h iC ha cQ;go_enter func232,ntmps232;go_wp2_with fail;refine(ZeB HA.out 1 5 e.kind (Zg0 M1.out) ZO ZO ZO).mono ?_;rintro r w1 ⟨rfl,eh,nk⟩;obtain⟨ez,qU⟩:=ZH2 eh nk;clear eh nk;go_wp2_with fail;refine(ZeB ez.out 0 4 e.r (Zg0 M2.out) ZO ZO ZO).mono ?_;rintro r w2 ⟨rfl,dC,eN⟩;obtain⟨eU,mT⟩:=ZH2 dC eN;clear dC eN;go_wp2_with fail;refine(Zgh eU.out HS.out 1 1048576 e.n _ (ZfF M3.out) ZO ZO ZO ZO).mono ?_;rintro r w3 ⟨rfl,ew,ir⟩;have wB:FS w (w3.alloc (.cells (evArr { Ev.zero with kind:=e.kind,r:=e.r,n:=e.n }) 89)) pe pu pb a n cap l ([e.kind,e.r]++Zd e.n) w.heap.size w3.heap.size { Ev.zero with kind:=e.kind,r:=e.r,n:=e.n }:=by
  have hg:=ZcB (ZcB (ZcB Nl.out qU.out) mT.out) ir;have rK:some w.heap.size≠some pu:=by intro e;injection e;omega
  refine⟨?_,ZBn _ _ _,(((vm.out.grown qU.out rK).grown mT.out rK).grown ir rK).alloc _,ZhQ hg _,uK,ZL _,hg.size,?_,sJ.out⟩
  ·have:=ew.below ((ZW w3.heap.size w3).alloc (ZL _) (.cells (evArr { Ev.zero with kind:=e.kind,r:=e.r,n:=e.n }) 89));rw[ZI];exact this
  ·have h1:=qU.out.size;have h2:=mT.out.size;have h3:=ir.size;simp at h1;omega
 have iR:=ZH wB;clear ew ir wB HA ez qU eU mT vm Nl M1 M2 M3;go_wp2_with fail;have xu:=ZH (HE.out.ctx);generalize hG6:w.heap.size=g6 at *;generalize hG7:w3.heap.size=g7 at *;go_loopw [8,16] (λ _ i wr=>∃ k:Nat,k<=5/\i = .int .i64 k/\Hid (FS w wr pe pu pb a n cap l ([e.kind,e.r]++Zd e.n++Zam e.ctx e.r k) g6 g7 { Ev.zero with kind:=e.kind,r:=e.r,n:=e.n,ctx:=Zfy e.ctx e.r k })) (λ _ i _=>5-(intOf i).toNat)
 case atStart =>
  have e0:[e.kind,e.r]++Zd e.n++Zam e.ctx e.r 0=[e.kind,e.r]++Zd e.n:=List.append_nil _;refine⟨0,ZO,rfl,?_⟩;rw[e0];exact iR
 case round =>
  clear iR;obtain⟨k,hk,rfl,HF⟩:=hrel;obtain⟨c0,c1,c8,Gy,Gw,fz⟩:=HF.out.cells;have FZ:=ZH fz;clear fz;by_cases ef:k<5
  ·have hm:=xu.out k;rcases Nat.decEq k e.r with oE | oE
   focus
    have dz:((k:Int) != (e.r:Int))=true:=ZP;obtain⟨t,ht⟩:=ZhH e.ctx e.r (k+1) 5 ZO;have hd:l=([e.kind,e.r]++Zd e.n++Zam e.ctx e.r k)++(Zd (e.ctx.get k)++(t++(Zd e.height++(e.key.size::(bs e.key++(ZbK e++rest)))))):=by
     have e3:Zam e.ctx e.r (k+1)=Zam e.ctx e.r k++Zd (e.ctx.get k):=by simp only[Zam];rw[if_neg oE]
     rw[HL.out,evBytes,ht,e3];simp
    have HD:=ZH hd;clear ht hd;go_wp2_with fail;refine(Zgh HF.out.rd HS.out 0 1048576 (e.ctx.get k) _ (ZfF HD.out) ZO ZO ZO ZO).mono ?_;rintro r w4 ⟨rfl,ie,dn⟩;have sb:=HF.out.read dn ie;have uD:=sb.write (2+k) (.int .i64 (e.ctx.get k)) (ZjV _ ef _);have e1:[e.kind,e.r]++Zd e.n++Zam e.ctx e.r k++Zd (e.ctx.get k)=[e.kind,e.r]++Zd e.n++Zam e.ctx e.r (k+1):=by simp only[Zam];rw[if_neg oE];simp
    have e2:(Zfy e.ctx e.r k).set k (e.ctx.get k)=Zfy e.ctx e.r (k+1):=by simp only[Zfy];rw[if_neg oE]
    rw[e1] at uD;dsimp only at uD;rw[e2] at uD;obtain⟨_,_,_,BI,_,s7⟩:=sb.cells;have N9:=s7 (2+k);obtain⟨u,hu⟩:∃ u,w4.cell? ⟨g7,2+k,none⟩=some u:=by
     rw[sb.box.cell];exact⟨_,Array.getElem?_eq_getElem ZP⟩
    have mD:=ZH uD;clear ie dn sb uD e1 e2 s7 c0 c1 c8
   rotate_left
   focus
    have dz:((k:Int) != (e.r:Int))=false:=ZP;have wB:=HF.out;have e1:[e.kind,e.r]++Zd e.n++Zam e.ctx e.r k=[e.kind,e.r]++Zd e.n++Zam e.ctx e.r (k+1):=by simp only[Zam];rw[if_pos oE];simp
    have e2:Zfy e.ctx e.r k=Zfy e.ctx e.r (k+1):=by simp only[Zfy];rw[if_pos oE]
    rw[e1,e2] at wB;have mD:=ZH wB;clear wB e1 e2 oE
   rotate_left
   all_goals
    go_wp2
    go_roundw
    case rel=>exact⟨k+1,ZO,ZN,mD⟩
    case measure=>simp[intOf];omega
  ·obtain rfl:k=5:=ZO;have cT:=HE.out.own;have sb:=HF.out.write (2+e.r) (.int .i64 (e.ctx.get e.r)) (ZjV _ r5 _);dsimp only at sb;rw[Zqd e.ctx r5] at sb;have ib:((e.ctx.get e.r:Nat):Int)=(e.n:Int)-1:=ZO;rw[ib] at sb;have N9:=FZ.out (2+e.r);obtain⟨u,hu⟩:∃ u,wr.cell? ⟨g7,2+e.r,none⟩=some u:=by
    rw[HF.out.box.cell];exact⟨_,Array.getElem?_eq_getElem ZP⟩
   obtain⟨lY,Lo⟩:=ZH2 sb ib;clear sb cT ib;have hd:l=([e.kind,e.r]++Zd e.n++Zam e.ctx e.r 5)++(Zd e.height++(e.key.size::(bs e.key++(ZbK e++rest)))):=by rw[HL.out,evBytes];simp
   have HD:=ZH hd;clear hd;go_wp2_with fail;refine(Zgh lY.out.rd HS.out 1 16777216 e.height _ (ZfF HD.out) ZO ZO ZO ZO).mono ?_;rintro r w4 ⟨rfl,ie,dn⟩;have uD:=lY.out.read dn ie;obtain⟨_,_,_,BI,Gx,s7⟩:=uD.cells;have R4:=s7 7;have RR:w4.cell? ⟨g7,7,none⟩=some (.int .i64 0):=uD.box.cell 7;have qd:=ZH (uD.write (cur':={ e with key:=⟨#[]⟩,label:=0,value:=⟨#[]⟩ }) 7 (.int .i64 e.height) rfl);have hd:l=([e.kind,e.r]++Zd e.n++Zam e.ctx e.r 5++Zd e.height)++(e.key.size::(bs e.key++(ZbK e++rest))):=by rw[HL.out,evBytes];simp
   have je:l=([e.kind,e.r]++Zd e.n++Zam e.ctx e.r 5++Zd e.height++[e.key.size])++(bs e.key++(ZbK e++rest)):=by rw[HL.out,evBytes];simp
   obtain⟨qb,nG⟩:=ZH2 hd je;have qA:=HE.out.edit.key.1;have hks2:=HE.out.edit.key.2.1;have Q7:=ZH (λ W=>Zll e.key W HE.out.edit.key);clear ie dn uD s7 hd je HD lY Lo c0 c1 c8 hu N9;go_wp2_with fail;refine(ZeB qd.out.rd 1 8 e.key.size (Zg0 qb.out) ZO ZO ZO).mono ?_;rintro r w5 ⟨rfl,eC,kg⟩;have Jj:=ZH (qd.out.read (q:=[e.key.size]) kg eC);clear eC kg R4 RR qd qb;go_wp2_with fail;refine(ZpW Jj.out.rd e.key _ (ZfF nG.out) qA Q7.out).mono ?_;rintro r w6 ⟨rfl,rM,mK⟩;have AN:=Jj.out.read (q:=bs e.key) mK (by rw[Zc2];exact rM);obtain⟨_,_,_,zc,zb,DY⟩:=AN.cells;have R5:=DY 9;have RU:w6.cell? ⟨g7,9,none⟩=some (.string ⟨#[]⟩):=AN.box.cell 9;have RS:w6.cell? ⟨g7,8,none⟩=some (.int .i64 e.kind):=AN.box.cell 8;have qt:=AN.write (cur':={ e with label:=0,value:=⟨#[]⟩ }) 9 (.string e.key) rfl;have xw:=ZH qt;clear rM mK AN qt DY Jj nG;go_wp2_with fail;refine(Zlo e.kind _).mono ?_;rintro r w7 ⟨rfl,rfl⟩;clear RS RU R5;rcases Nat.lt_or_ge 2 e.kind with cJ | cJ
   ·have AH:decide (e.kind≠1/\e.kind≠2)=true:=ZP;rw[AH];clear AH;obtain⟨l1,l2,l3⟩:=HE.out.edit.long cJ;have iO:l=([e.kind,e.r]++Zd e.n++Zam e.ctx e.r 5++Zd e.height++[e.key.size]++bs e.key)++(e.label::(e.value.size::(bs e.value++rest))):=by
     rw[HL.out,evBytes,ZbK,if_pos cJ];simp
    have l7:l=([e.kind,e.r]++Zd e.n++Zam e.ctx e.r 5++Zd e.height++[e.key.size]++bs e.key++[e.label])++(e.value.size::(bs e.value++rest)):=by
     rw[HL.out,evBytes,ZbK,if_pos cJ];simp
    have jy:l=([e.kind,e.r]++Zd e.n++Zam e.ctx e.r 5++Zd e.height++[e.key.size]++bs e.key++[e.label]++[e.value.size])++(bs e.value++rest):=by
     rw[HL.out,evBytes,ZbK,if_pos cJ];simp
    obtain⟨ii,nX,qQ⟩:=ZH3 iO l7 jy;clear iO l7 jy;have qt:=xw.out;generalize w6.setCell ⟨g7,9,none⟩ (.string e.key)=wy at *;clear xw Gy Gw BI Gx zc zb;have xw:=ZH qt;clear qt;have zY:=ZH (λ W=>Zot e.value W l2 l3);go_wp2_with fail;refine(ZeB xw.out.rd 0 1 e.label (Zg0 ii.out) ZO ZO ZO).mono ?_;rintro r jt ⟨rfl,mA,ER⟩;have wA:=xw.out.read (q:=[e.label]) ER mA;obtain⟨_,_,_,Gy,Gw,s7⟩:=wA.cells;have KI:=s7 10;have KD:jt.cell? ⟨g7,10,none⟩=some (.int .i64 0):=wA.box.cell 10;have zx:=ZH (wA.write (cur':={ e with value:=⟨#[]⟩ }) 10 (.int .i64 e.label) rfl);clear mA ER wA s7 xw ii;go_wp2_with fail;refine(ZeB zx.out.rd 1 12 e.value.size (Zg0 nX.out) ZO ZO ZO).mono ?_;rintro r Ct ⟨rfl,FM,ES⟩;have zy:=ZH (zx.out.read (q:=[e.value.size]) ES FM);clear FM ES zx nX KI KD Gy Gw;go_wp2_with fail;refine(ZmH zy.out.rd e.value _ (ZfF qQ.out) l2 zY.out).mono ?_;rintro r zg ⟨rfl,FN,ET⟩;have nj:=zy.out.read (q:=bs e.value) ET (by rw[Zc2];exact FN);have fO:[e.kind,e.r]++Zd e.n++Zam e.ctx e.r 5++Zd e.height++[e.key.size]++bs e.key++[e.label]++[e.value.size]++bs e.value=evBytes e:=by
     rw[evBytes,ZbK,if_pos cJ];simp
    rw[fO] at nj;obtain⟨_,_,_,Gy,Gw,s7⟩:=nj.cells;have fz11:=s7 11;have cc11:zg.cell? ⟨g7,11,none⟩=some (.string ⟨#[]⟩):=nj.box.cell 11;have Ji:=ZH (nj.write (cur':=e) 11 (.string e.value) rfl);obtain⟨c0,c1,c2,c3,c4,c5,c6,c7,c8,c9,cP,_⟩:=nj.box.ae;obtain⟨d0,d1,d2,d3,d4,d5,d6,d7,d8,d9,xV,sZ⟩:=nj.out.ae;have fo:=nj.out.frozen;have f0:=fo 0;have f1:=fo 1;have f2:=fo 2;have f3:=fo 3;have f4:=fo 4;have f5:=fo 5;have f6:=fo 6;have f7:=fo 7;have f8:=fo 8;have f9:=fo 9;have f10:=fo 10;have f11:=fo 11;have dz:=nj.ne;clear FN ET nj s7 fo zy qQ fO;go_wp2_with fail;obtain⟨hb,hr,hg⟩:=Ji.out.finish;refine bodyPost_ret (w:=setAll (zg.setCell ⟨g7,11,none⟩ (.string e.value)) g6 0 (evArr e).toList) (Zfi rfl rfl (run_loadVar_row _ _ _ _ _ _ _ hb underlying89 rfl ZK)) rfl ?_;exact⟨rfl,hr,hg⟩
   ·have AH:decide (e.kind≠1/\e.kind≠2)=false:=ZP;rw[AH];clear AH;obtain⟨s1,s2⟩:=HE.out.edit.short cJ;have kd:({ e with label:=0,value:=⟨#[]⟩ }:Ev)=e:=by
     obtain⟨_,_,_,_,_,_,lb,vl⟩:=e;simp only at s1 s2;rw[s1,s2];rfl
    have qt:=xw.out;rw[kd] at qt;have fO:[e.kind,e.r]++Zd e.n++Zam e.ctx e.r 5++Zd e.height++[e.key.size]++bs e.key=evBytes e:=by
     rw[evBytes,ZbK,if_neg ZO];simp
    rw[fO] at qt;obtain⟨c0,c1,c2,c3,c4,c5,c6,c7,c8,c9,cP,cR⟩:=qt.box.ae;obtain⟨d0,d1,d2,d3,d4,d5,d6,d7,d8,d9,xV,sZ⟩:=qt.out.ae;have fo:=qt.out.frozen;have f0:=fo 0;have f1:=fo 1;have f2:=fo 2;have f3:=fo 3;have f4:=fo 4;have f5:=fo 5;have f6:=fo 6;have f7:=fo 7;have f8:=fo 8;have f9:=fo 9;have f10:=fo 10;have f11:=fo 11;have dz:=qt.ne;have Jh:=ZH qt;generalize w6.setCell ⟨g7,9,none⟩ (.string e.key)=wx at *;clear qt fo xw fO kd s1 s2 Gy Gw BI Gx zc zb;go_wp2_with fail;obtain⟨hb,hr,hg⟩:=Jh.out.finish;refine bodyPost_ret (w:=setAll wx g6 0 (evArr e).toList) (Zfi rfl rfl (run_loadVar_row _ _ _ _ _ _ _ hb underlying89 rfl ZK)) rfl ?_;exact⟨rfl,hr,hg⟩
end
theorem ZjF{P:Program}{fn:Func}{t1 y1 t2 y2 t3 y3:Nat}(h:fn.results=#[.cell t1 y1,.cell t2 y2,.cell t3 y3]){tmps:Array Value}{w:World}{a1 a2 a3:Addr}{v1 v2 v3:Value}
  (p1:tmps.getD t1 undef = .pointer (some a1)) (p2:tmps.getD t2 undef = .pointer (some a2)) (p3:tmps.getD t3 undef = .pointer (some a3))
  (l1:(loadVar y1 a1).run P w = .ok v1 w) (l2:(loadVar y2 a2).run P w = .ok v2 w) (l3:(loadVar y3 a3).run P w = .ok v3 w):(results fn tmps).run P w = .ok (.tuple #[v1,v2,v3]) w:=by
 have q1:tmps[t1]?.getD undef = .pointer (some a1):=by simpa using p1
 have q2:tmps[t2]?.getD undef = .pointer (some a2):=by simpa using p2
 have q3:tmps[t3]?.getD undef = .pointer (some a3):=by simpa using p3
 simp[results,h,q1,q2,q3,asAddr,l1,l2,l3]
theorem Zd4{P:Program}{w:World}{g:Nat}{t ty:TypeId}{k:IntKind}{v:Value}(h:Blk w g t #[v])(hu:P.underlying ty=some (.int k)):(loadVar ty ⟨g,0,none⟩).run P w = .ok v w:=by
 have hc:=h.cell 0;simp only[ZD,ZE] at hc;have Bf:=run_underlying (w:=w) hu;simp[loadVar,isAgg,Bf,load,hc,Sem.run,Result.andThen]
abbrev Zj:Array Value:=#[.int .i64 0,.int .i64 0,.int .i64 0,.int .i64 0,.int .i64 0,.int .i64 0,.int .i64 0,.int .i64 0,.int .i64 0,.string ⟨#[]⟩,.int .i64 0,.string ⟨#[]⟩]
structure TkS(w W:World)(e:Ev):Prop where
 box:Blk W (w.heap.size+1) 89 (evArr e)
 used:Blk W (w.heap.size+2) 3 #[.int .i64 ((evBytes e).length:Int)]
 err:Blk W (w.heap.size+3) 28 #[.int .i64 0]
 below:Below w.heap.size w W
theorem TkS.drew{w W:World}{e:Ev}(h:TkS w W e):TkS w W.drew e:=⟨h.box,h.used,h.err,h.below.drew⟩
theorem TkS.aZ{w W:World}{e:Ev}(h:TkS w W e):TkS w (setAll W (w.heap.size+1) 0 (evArr e).toList) e:=by
 have hb:=Zaw (vs:=evArr e) h.box rfl;obtain⟨h1,h2,h3,h4⟩:=h;generalize (evArr e).toList=vs at hb ⊢;have far:=λ(k:Nat) (hk:k≠w.heap.size+1)=>Zaj hk vs 0 W
 obtain⟨q1,q2,q3⟩:=Zb6 (g:=w.heap.size+1) vs 0 W;exact⟨hb,(far _ ZO).trans h2,(far _ ZO).trans h3,q1.trans h4.os,q2.trans h4.tape,q3.trans h4.output,by rw[ZaR];exact h4.size,λ k hk=>(far k ZO).trans (h4.block k hk)⟩
theorem TkS.bB{w W:World}{e:Ev}(h:TkS w W e):TkS w (W.setCell ⟨w.heap.size+2,0,none⟩ (.int .i64 ((evBytes e).length:Int))) e :=
 ⟨h.box.far ZM _,h.used.bf _,h.err.far ZM _,h.below.setCell ZM _⟩
theorem TkS.bF{w W:World}{e:Ev}(h:TkS w W e):TkS w (W.setCell ⟨w.heap.size+3,0,none⟩ (.int .i64 0)) e :=
 ⟨h.box.far ZM _,h.used.far ZM _,h.err.bf _,h.below.setCell ZM _⟩
theorem ZiJ{w:World}{a:Option Addr}{n cap:Nat}{l:List Nat}(h:Bytes w a n cap l)(hs:∀ x∈l,x<256)(hn:n<=1000000)(e:Ev)(he:e.Ok)(rest:List Nat)(hl:l=evBytes e++rest):
  Calls prog 203 #[.slice a n cap] w λ r w'=>r = .returned (.tuple #[Zaa e,.int .i64 (evBytes e).length,.int .i64 0])/\Below w.heap.size w w':=by
 have tW:0<n:=by
  have:=h.len;rw[hl] at this;simp[evBytes] at this;omega
 obtain⟨b,off,ha,cQ,_⟩:=h.pos tW;have b1:Below w.heap.size w ((((w.alloc (.cells #[.slice a n cap] 106)).alloc (.cells Zj 89)).alloc (.cells #[.int .i64 0] 3)).alloc (.cells #[.int .i64 0] 28)):=(((((ZW w.heap.size w).alloc (ZL _) _).alloc ZM _).alloc ZP _).alloc ZP _);have fL:Rd ((((w.alloc (.cells #[.slice a n cap] 106)).alloc (.cells Zj 89)).alloc (.cells #[.int .i64 0] 3)).alloc (.cells #[.int .i64 0] 28)) (w.heap.size+3) (w.heap.size+2) w.heap.size a n cap l 0:=by
  have s1:(w.alloc (.cells #[.slice a n cap] 106)).heap.size=w.heap.size+1:=ZM;have s2:((w.alloc (.cells #[.slice a n cap] 106)).alloc (.cells Zj 89)).heap.size=w.heap.size+2:=ZM;have s3:(((w.alloc (.cells #[.slice a n cap] 106)).alloc (.cells Zj 89)).alloc (.cells #[.int .i64 0] 3)).heap.size=w.heap.size+3:=ZM;refine⟨?_,?_,(((ZBn w _ _).alloc _).alloc _).alloc _,h.kept b1 (ZL _),λ ad e=>?_,ZO,ZO,hn⟩
  ·have:=ZBn (((w.alloc (.cells #[.slice a n cap] 106)).alloc (.cells Zj 89)).alloc (.cells #[.int .i64 0] 3)) 28 #[.int .i64 0];rw[s3] at this;exact this
  ·have:=(ZBn ((w.alloc (.cells #[.slice a n cap] 106)).alloc (.cells Zj 89)) 3 #[.int .i64 0]).alloc (.cells #[.int .i64 0] 28);rw[s2] at this;exact this
  ·rw[ha] at e;injection e with e;subst e;show b≠w.heap.size+2;omega
 have el:Blk ((((w.alloc (.cells #[.slice a n cap] 106)).alloc (.cells Zj 89)).alloc (.cells #[.int .i64 0] 3)).alloc (.cells #[.int .i64 0] 28)) (w.heap.size+1) 89 Zj:=by
  have:=((ZBn (w.alloc (.cells #[.slice a n cap] 106)) 89 Zj).alloc (.cells #[.int .i64 0] 3)).alloc (.cells #[.int .i64 0] 28);have s1:(w.alloc (.cells #[.slice a n cap] 106)).heap.size=w.heap.size+1:=ZM;rw[s1] at this;exact this
 have uv:Hid (((((w.alloc (.cells #[.slice a n cap] 106)).alloc (.cells Zj 89)).alloc (.cells #[.int .i64 0] 3)).alloc (.cells #[.int .i64 0] 28)).heap.size=w.heap.size+4):=ZH (ZM);obtain⟨iH,iX,cL,HL,HS,HE⟩:=ZH6 fL el b1 hl hs he;clear fL el b1 hl hs he h ha;go_enter func203,ntmps203;go_wp2_with fail;generalize (((w.alloc (.cells #[.slice a n cap] 106)).alloc (.cells Zj 89)).alloc (.cells #[.int .i64 0] 3)).alloc (.cells #[.int .i64 0] 28)=w1 at *;simp only[Nat.add_assoc,Nat.reduceAdd];refine(Zno e HE.out rest HL.out HS.out iH.out).mono ?_;rintro r w2 ⟨rfl,wU,eN⟩;have rF:some (w.heap.size+1)≠some (w.heap.size+2):=by intro e;injection e;omega
 have tv:=iX.out.grown eN rF;obtain⟨c0,c1,c2,c3,c4,c5,c6,c7,c8,c9,cP,cR⟩:=tv.ae;have fo:=tv.frozen;have f0:=fo 0;have f1:=fo 1;have f2:=fo 2;have f3:=fo 3;have f4:=fo 4;have f5:=fo 5;have f6:=fo 6;have f7:=fo 7;have f8:=fo 8;have f9:=fo 9;have f10:=fo 10;have f11:=fo 11;obtain⟨e1,e2,e3⟩:=wU.err.one;obtain⟨u1,u2,u3⟩:=wU.used.one;have A5:=tv.lt;obtain⟨zM,mT,Cy⟩:=ZH3 wU eN tv;clear wU eN tv fo rF iH iX;go_wp2_with fail;change Code.wp _ _ _ _ (setAll w2 (w.heap.size+1) 0 (evArr e).toList);have bZ:=Zaw (vs:=evArr e) Cy.out ZM;have far:=λ(k:Nat) (hk:k≠w.heap.size+1)=>Zaj hk (evArr e).toList 0 w2
 have mJ:Blk (setAll w2 (w.heap.size+1) 0 (evArr e).toList) (w.heap.size+3) 28 #[.int .i64 0]:=(far _ ZO).trans zM.out.err;have cO:Blk (setAll w2 (w.heap.size+1) 0 (evArr e).toList) (w.heap.size+2) 3 #[.int .i64 ((evBytes e).length:Int)]:=(far _ ZO).trans zM.out.used;have fW:Below w.heap.size w (setAll w2 (w.heap.size+1) 0 (evArr e).toList):=by
  have h1:=cL.out.grown mT.out (by rw[uv.out];omega) (λ k hk=>by injection hk with hk;omega);obtain⟨q1,q2,q3⟩:=Zb6 (g:=w.heap.size+1) (evArr e).toList 0 w2;exact⟨q1.trans h1.os,q2.trans h1.tape,q3.trans h1.output,by rw[ZaR];exact h1.size,λ k hk=>(far k ZO).trans (h1.block k hk)⟩
 generalize setAll w2 (w.heap.size+1) 0 (evArr e).toList=w3 at *;clear e1 e2 e3 u1 u2 u3 c0 c1 c2 c3 c4 c5 c6 c7 c8 c9 cP cR f0 f1 f2 f3 f4 f5 f6 f7 f8 f9 f10 f11 zM Cy far;have np:=bZ.lt;have iq:Hid (TkS w w3 e):=⟨bZ,cO,mJ,fW⟩;clear bZ mJ cO fW;refine ZSh (λ w'=>TkS w w' e) [(0,0),(1,0),(2,1),(3,1),(4,1)] (iq.out.drew) λ bR=>?_
 repeat((first | refine ZSa ?_ | refine ZSb ?_ | (refine Zf rfl (by rfl) (λ w' ci=>by obtain⟨c0,c1,c2,c3,c4,c5,c6,c7,c8,c9,cP,cR⟩:=ci.box.ae;obtain⟨u1,u2,u3⟩:=ci.used.one;go_simp;with_reducible rfl) ?_));simp only[Act.put,ZA,ZB,ZC])
 clear bR;obtain⟨c0,c1,c2,c3,c4,c5,c6,c7,c8,c9,cP,cR⟩:=iq.out.box.ae;have fo:=iq.out.box.frozen;have f0:=fo 0;have f1:=fo 1;have f2:=fo 2;have f3:=fo 3;have f4:=fo 4;have f5:=fo 5;have f6:=fo 6;have f7:=fo 7;have f8:=fo 8;have f9:=fo 9;have f10:=fo 10;have f11:=fo 11;clear fo;refine ZSd λ K hK=>?_
 go_simp;refine hK.out (λ w'=>TkS w w' e) _ (setAll w3 (w.heap.size+1) 0 (evArr e).toList).drew (λ _ h=>h) iq.out.aZ.drew (λ bR=>?_);clear hK K c0 c1 c2 c3 c4 c5 c6 c7 c8 c9 cP cR f0 f1 f2 f3 f4 f5 f6 f7 f8 f9 f10 f11 iq;generalize (setAll w3 (w.heap.size+1) 0 (evArr e).toList).drew=w4 at *;obtain⟨u1,u2,u3⟩:=bR.used.one;obtain⟨e1,e2,e3⟩:=bR.err.one;have zP:=ZH bR;clear bR;refine ZSd λ K hK=>?_
 go_simp;refine hK.out (λ w'=>TkS w w' e) _ _ (λ _ h=>h) zP.out.bB (λ bR=>?_);clear hK K;have Hw:=ZH bR;clear bR;refine ZSd λ K hK=>?_
 go_simp;refine hK.out (λ w'=>TkS w w' e) _ _ (λ _ h=>h) Hw.out.bF (λ bR=>?_);clear hK K;have vy:=ZH bR;clear bR;refine ZSf ?_;go_wp2_with fail;refine bodyPost_ret (ZjF rfl rfl rfl rfl (run_loadVar_row _ _ _ _ _ _ _ vy.out.box underlying89 rfl ZK) (Zd4 vy.out.used underlying3) (Zd4 vy.out.err underlying28)) rfl ?_;exact⟨rfl,vy.out.below⟩
theorem ZaB{B:Nat}{w W:World}(h:Kept B w W){g:Nat}(hg:B<=g)(i:Nat)(vs:List Value):Kept B w (setAll W g i vs):=by
 obtain⟨h1,h2,h3⟩:=Zb6 (g:=g) vs i W;exact⟨⟨h1.trans h.below.os,h2.trans h.below.tape,h3.trans h.below.output,by rw[ZaR];exact h.below.size,λ k hk=>(Zaj ZO vs i W).trans (h.below.block k hk)⟩,by rw[ZaR];exact h.le⟩
theorem Zn{P:Program}{fn:Func}{t1 y1 t2:Nat}(h:fn.results=#[.cell t1 y1,.tmp t2]){tmps:Array Value}{w:World}{a1:Addr}{v1 v2:Value}
  (p1:tmps.getD t1 undef = .pointer (some a1)) (p2:tmps.getD t2 undef=v2) (l1:(loadVar y1 a1).run P w = .ok v1 w):(results fn tmps).run P w = .ok (.tuple #[v1,v2]) w:=by
 have q1:tmps[t1]?.getD undef = .pointer (some a1):=by simpa using p1
 have q2:tmps[t2]?.getD undef=v2:=by simpa using p2
 simp[results,h,q1,q2,asAddr,l1]
def Clk.has(c:Clk)(r n:Nat):Bool:=decide (1<=n/\n<=c.get r)
abbrev clkArr(c:Clk):Array Value:=#[.int .i64 c.c0,.int .i64 c.c1,.int .i64 c.c2,.int .i64 c.c3,.int .i64 c.c4]
theorem ZdY(c:Clk){i:Nat}(h:i<5):(clkArr c)[i]? = some (.int .i64 (c.get i)):=by
 match i,h with
 | 0,_=>rfl
 | 1,_=>rfl
 | 2,_=>rfl
 | 3,_=>rfl
 | 4,_=>rfl
theorem ZeJ(c:Clk){i:Nat}(h:i<5)(v:Nat):(clkArr c).setIfInBounds i (.int .i64 v)=clkArr (c.set i v):=by
 match i,h with
 | 0,_=>rfl
 | 1,_=>rfl
 | 2,_=>rfl
 | 3,_=>rfl
 | 4,_=>rfl
theorem ZmS(w:World)(c:Clk){i:Nat}(h:i<5):(w.alloc (.cells (clkArr c) 44)).cell? ⟨w.heap.size,i,none⟩=some (.int .i64 (c.get i)):=by
 rw[(ZBn w _ _).cell];exact ZdY c h
theorem Zjq(c:Clk)(r n:Nat)(w:World)(hr:r<5):Calls prog 114 #[Za2 c,.int .i64 r,.int .i64 n] w (Zv (.bool (c.has r n)) w):=by
 have bU:=ZmS w c hr;have HB:=ZH (((ZKr w).alloc (.cells (clkArr c) 44)).below);rcases Nat.lt_or_ge n 1 with h0 | h0
 ·have e:c.has r n=false:=decide_eq_false ZO;rw[e];clear e;go_enter func114,ntmps114;go_wp2
  go_ret;exact⟨rfl,HB.out⟩
 ·rcases Nat.lt_or_ge (c.get r) n with h1 | h1
  ·have e:c.has r n=false:=decide_eq_false ZO;rw[e];clear e;have hd:decide (n<=c.get r)=false:=ZP;go_enter func114,ntmps114;go_wp2
   go_ret;exact⟨rfl,HB.out⟩
  ·have e:c.has r n=true:=decide_eq_true ⟨h0,h1⟩;rw[e];clear e;have hd:decide (n<=c.get r)=true:=ZP;go_enter func114,ntmps114;go_wp2
   go_ret;exact⟨rfl,HB.out⟩
def Clk.le(a b:Clk):Bool:=decide (a.c0<=b.c0/\a.c1<=b.c1/\a.c2<=b.c2/\a.c3<=b.c3/\a.c4<=b.c4)
theorem Clk.le_iff{a b:Clk}:a.le b=true↔∀ i,i<5->a.get i<=b.get i:=by
 unfold Clk.le;rw[decide_eq_true_iff];constructor
 ·rintro⟨h0,h1,h2,h3,h4⟩ i hi
  match i,hi with
  | 0,_=>exact h0
  | 1,_=>exact h1
  | 2,_=>exact h2
  | 3,_=>exact h3
  | 4,_=>exact h4
 ·intro h;exact⟨h 0 ZO,h 1 ZO,h 2 ZO,h 3 ZO,h 4 ZO⟩
theorem Blk.clk{w:World}{g:Nat}{t:TypeId}{c:Clk}(h:Blk w g t (clkArr c)){i:Nat}(hi:i<5):w.cell? ⟨g,i,none⟩=some (.int .i64 (c.get i)):=by
 rw[h.cell];exact ZdY c hi
theorem Blk.aE{w:World}{g:Nat}{t:TypeId}{v0 v1 v2 v3 v4:Value}(h:Blk w g t #[v0,v1,v2,v3,v4]):w.cell? ⟨g,0,none⟩=some v0/\w.cell? ⟨g,1,none⟩=some v1/\w.cell? ⟨g,2,none⟩=some v2/\w.cell? ⟨g,3,none⟩=some v3/\w.cell? ⟨g,4,none⟩=some v4 :=
 ⟨h.cell 0,h.cell 1,h.cell 2,h.cell 3,h.cell 4⟩
theorem ZnL(a b:Clk)(w:World):Calls prog 222 #[Za2 a,Za2 b] w (Zv (.bool (a.le b)) w):=by
 have HA:=ZH ((ZBn w 44 (clkArr a)).alloc (.cells (clkArr b) 44));have hB:=ZBn (w.alloc (.cells (clkArr a) 44)) 44 (clkArr b);have HK:=ZH (((ZKr w).alloc (.cells (clkArr a) 44)).alloc (.cells (clkArr b) 44));have e1:(w.alloc (.cells (clkArr a) 44)).heap.size=w.heap.size+1:=ZM;rw[e1] at hB;have HB:=ZH hB;clear hB e1;obtain⟨R,hR⟩:∃ R,R=a.le b:=⟨_,rfl⟩;rw[←hR];have HR:=ZH hR;clear hR;go_enter func222,ntmps222;go_wp2_with fail;go_loopw [5,6] (λ _ i wr=>∃ k:Nat,k<=5/\i = .int .i64 k/\Hid (∀ j,j<k->a.get j<=b.get j)/\Hid (Blk wr w.heap.size 44 (clkArr a))/\Hid (Blk wr (w.heap.size+1) 44 (clkArr b))/\Hid (Kept w.heap.size w wr)) (λ _ i _=>5-(intOf i).toNat)
 case atStart=>exact⟨0,ZO,rfl,ZH (λ j hj=>ZO),HA,HB,HK⟩
 case round =>
  clear HA HB HK;obtain⟨k,hk,rfl,HL,HA,HB,HK⟩:=hrel;by_cases ef:k<5
  ·have ca:=HA.out.clk ef;have cb:=HB.out.clk ef;have k0:(0:Int)<=(k:Int):=ZO;have k5:(k:Int)<5:=ZO;rcases Nat.lt_or_ge (b.get k) (a.get k) with yq | fc
   ·have hd:decide ((a.get k:Int)>(b.get k:Int))=true:=ZP;have je:decide (b.get k<a.get k)=true:=ZP;have hR:R=false:=by
     rw[HR.out];rcases h:a.le b with _ | _
     ·rfl
     ·have:=Clk.le_iff.1 h k ef;omega
    subst hR;go_wp2_with fail;go_quiet (fail)
    go_wp2
    go_ret;exact⟨rfl,(HK.out.drewN _).below⟩
   ·have hd:decide ((a.get k:Int)>(b.get k:Int))=false:=ZP;have je:decide (b.get k<a.get k)=false:=ZP;have hn:∀ j,j<k+1->a.get j<=b.get j:=λ j hj=>by
     rcases Nat.lt_or_ge j k with h | h
     ·exact HL.out j h
     ·obtain rfl:j=k:=ZO;exact fc
    have HN:=ZH hn;clear hn;go_wp2_with fail;go_quiet (fail)
    go_wp2
    go_roundw
    case rel=>exact⟨k+1,ZO,ZN,HN,HA.out.drewN _,HB.out.drewN _,HK.out.drewN _⟩
    case measure=>simp[intOf];omega
  ·obtain rfl:k=5:=ZO;have hR:R=true:=by
    rw[HR.out];exact Clk.le_iff.2 HL.out
   subst hR;go_wp2
   go_ret;exact⟨rfl,HK.out.below⟩
theorem Z6(w:World)(o:Obj)(t:TypeId)(cs:Array Value):Blk ((w.alloc o).alloc (.cells cs t)) (w.heap.size+1) t cs:=by
 have h:=ZBn (w.alloc o) t cs;have e:(w.alloc o).heap.size=w.heap.size+1:=ZM;rw[e] at h;exact h
theorem Zbu(w:World)(o o':Obj):Below w.heap.size w ((w.alloc o).alloc o'):=(((ZW w.heap.size w).alloc (ZL _) _).alloc ZM _)
theorem Zlv(c:Clk)(r:Nat)(w:World)(hr:r<5)(hm:c.get r<1048576):Calls prog 66 #[Za2 c,.int .i64 r] w (Zv (.tuple #[Za2 (c.set r (c.get r+1)),.int .i64 0]) w):=by
 have hd:decide ((c.get r:Int)>=1048576)=false:=ZP;have cI:c.get r<=2000000:=ZO;clear hm;obtain⟨a0,a1,a2,a3,a4⟩:=c;rcases(by omega:r=0∨r=1∨r=2∨r=3∨r=4) with rfl | rfl | rfl | rfl | rfl
 all_goals
  simp only[Clk.get,Clk.set] at cI hd ⊢;push_cast;go_enter func66,ntmps66;go_wp2_with fail;refine bodyPost_ret (Zn rfl rfl rfl (run_loadVar_row _ _ _ _ _ _ _ (Z6 _ _ _ _) underlying44 rfl ZK)) rfl ?_;exact⟨rfl,Zbu _ _ _⟩
theorem Clk.aD(c:Clk){i:Nat}(h:i<5)(v:Nat):(c.set i v).get i=v:=by
 match i,h with
 | 0,_=>rfl
 | 1,_=>rfl
 | 2,_=>rfl
 | 3,_=>rfl
 | 4,_=>rfl
theorem Clk.aB(c:Clk){i j:Nat}(h:i≠j)(v:Nat):(c.set i v).get j=c.get j:=by
 match i,j,h with
 | 0,0,h=>exact absurd rfl h
 | 0,1,_=>rfl
 | 0,2,_=>rfl
 | 0,3,_=>rfl
 | 0,4,_=>rfl
 | 0,_+5,_=>rfl
 | 1,0,_=>rfl
 | 1,1,h=>exact absurd rfl h
 | 1,2,_=>rfl
 | 1,3,_=>rfl
 | 1,4,_=>rfl
 | 1,_+5,_=>rfl
 | 2,0,_=>rfl
 | 2,1,_=>rfl
 | 2,2,h=>exact absurd rfl h
 | 2,3,_=>rfl
 | 2,4,_=>rfl
 | 2,_+5,_=>rfl
 | 3,0,_=>rfl
 | 3,1,_=>rfl
 | 3,2,_=>rfl
 | 3,3,h=>exact absurd rfl h
 | 3,4,_=>rfl
 | 3,_+5,_=>rfl
 | 4,0,_=>rfl
 | 4,1,_=>rfl
 | 4,2,_=>rfl
 | 4,3,_=>rfl
 | 4,4,h=>exact absurd rfl h
 | 4,_+5,_=>rfl
 | _+5,_,_=>rfl
def Zez(a b:Clk):Nat->Clk
 | 0=>a
 | k+1=>(Zez a b k).set k (max (a.get k) (b.get k))
abbrev Clk.join(a b:Clk):Clk:=Zez a b 5
theorem ZiP(a b:Clk){j:Nat}:∀ k,k<=j->(Zez a b k).get j=a.get j
 | 0,_=>rfl
 | k+1,h=>by rw[Zez,Clk.aB _ ZO,ZiP a b k ZO]
theorem Zqp(a b:Clk){i:Nat}(h:i<5):(a.join b).get i=max (a.get i) (b.get i):=by
 match i,h with
 | 0,_=>rfl
 | 1,_=>rfl
 | 2,_=>rfl
 | 3,_=>rfl
 | 4,_=>rfl
theorem Zac{P:Program}{fn:Func}{t1 y1:Nat}(h:fn.results=#[.cell t1 y1]){tmps:Array Value}{w:World}{a1:Addr}{v1:Value}
  (p1:tmps.getD t1 undef = .pointer (some a1)) (l1:(loadVar y1 a1).run P w = .ok v1 w):(results fn tmps).run P w = .ok v1 w:=by
 have q1:tmps[t1]?.getD undef = .pointer (some a1):=by simpa using p1
 simp[results,h,q1,asAddr,l1]
theorem Zqo(a b:Clk)(w:World)(ha:∀ i,a.get i<=2000000)(hb:∀ i,b.get i<=2000000):Calls prog 135 #[Za2 a,Za2 b] w (Zv (Za2 (a.join b)) w):=by
 obtain⟨HA,HB⟩:=ZH2 (((ZBn w 44 (clkArr a)).alloc (.cells (clkArr b) 44)).alloc (.cells #[.int .i64 0,.int .i64 0,.int .i64 0,.int .i64 0,.int .i64 0] 44)) ((Z6 w (.cells (clkArr a) 44) 44 (clkArr b)).alloc (.cells #[.int .i64 0,.int .i64 0,.int .i64 0,.int .i64 0,.int .i64 0] 44));have hC:=Z6 (w.alloc (.cells (clkArr a) 44)) (.cells (clkArr b) 44) 44 #[.int .i64 0,.int .i64 0,.int .i64 0,.int .i64 0,.int .i64 0];have e1:(w.alloc (.cells (clkArr a) 44)).heap.size=w.heap.size+1:=ZM;rw[e1] at hC;obtain⟨HK,HC,Ha,Hb⟩:=ZH4 ((((ZKr w).alloc (.cells (clkArr a) 44)).alloc (.cells (clkArr b) 44)).alloc (.cells #[.int .i64 0,.int .i64 0,.int .i64 0,.int .i64 0,.int .i64 0] 44)) hC ha hb;clear hC e1 ha hb;go_enter func135,ntmps135;go_wp2_with fail;go_loopw [5,6] (λ _ i wr=>∃ k:Nat,k<=5/\i = .int .i64 k/\Hid (Blk wr w.heap.size 44 (clkArr (Zez a b k)))/\Hid (Blk wr (w.heap.size+1) 44 (clkArr b))/\Hid (Blk wr (w.heap.size+1+1) 44 #[.int .i64 0,.int .i64 0,.int .i64 0,.int .i64 0,.int .i64 0])/\Hid (Kept w.heap.size w wr)) (λ _ i _=>5-(intOf i).toNat)
 case atStart=>exact⟨0,ZO,rfl,HA,HB,HC,HK⟩
 case round =>
  clear HA HB HC HK;obtain⟨k,hk,rfl,HA,HB,HC,HK⟩:=hrel;by_cases ef:k<5
  ·have ca:=HA.out.clk ef;rw[ZiP a b k (ZL _)] at ca;have cb:=HB.out.clk ef;have fr:=HA.out.frozen k;have k0:(0:Int)<=(k:Int):=ZO;have k5:(k:Int)<5:=ZO;have h1:=Ha.out k;have h2:=Hb.out k;have Cd:(if a.get k<b.get k then(b.get k:Int) else(a.get k:Int))=((max (a.get k) (b.get k):Nat):Int):=by split <;> omega
   have hmx2:max (a.get k:Int) (b.get k:Int)=((max (a.get k) (b.get k):Nat):Int):=ZO;have ql:=(HA.out.ai k (.int .i64 ((max (a.get k) (b.get k):Nat):Int)));rw[ZeJ _ ef] at ql;have dd:=HB.out.far (p:=⟨w.heap.size,k,none⟩) ZM (.int .i64 ((max (a.get k) (b.get k):Nat):Int));have Ar:=HC.out.far (p:=⟨w.heap.size,k,none⟩) (by show w.heap.size+1+1≠w.heap.size;omega) (.int .i64 ((max (a.get k) (b.get k):Nat):Int));obtain⟨cr,pi,cH,CC⟩:=ZH4 (HK.out.setCell (p:=⟨w.heap.size,k,none⟩) (ZL _) (.int .i64 ((max (a.get k) (b.get k):Nat):Int))) ql dd Ar;clear ql dd Ar;go_wp2_with fail;go_still_tail 9,ZK
   change wpList _ _ _ _ _ wr.drew
   go_wp2
   go_roundw
   case rel=>exact⟨k+1,ZO,ZN,pi,cH,CC,cr.out.drew⟩
   case measure=>simp[intOf];omega
  ·obtain rfl:k=5:=ZO;obtain⟨c0,c1,c2,c3,c4⟩:=HA.out.aE;have fo:=HC.out.frozen;have f0:=fo 0;have f1:=fo 1;have f2:=fo 2;have f3:=fo 3;have f4:=fo 4;obtain⟨d0,d1,d2,d3,d4⟩:=HC.out.aE;clear fo;go_wp2_with fail;have dx:=Zaw (vs:=clkArr (Zez a b 5)) HC.out rfl;have rB:=ZaB HK.out (g:=w.heap.size+1+1) ZO 0 (clkArr (Zez a b 5)).toList;refine bodyPost_end (w:=setAll wr (w.heap.size+1+1) 0 (clkArr (Zez a b 5)).toList) (Zac rfl rfl (run_loadVar_row _ _ _ _ _ _ _ dx underlying44 rfl ZK)) rfl ?_;exact⟨rfl,rB.below⟩
section
def evCells(es:List Ev):List Value:=es.flatMap λ e=>(evArr e).toList
theorem Zao:∀ es:List Ev,(evCells es).length=es.length*12
 | []=>rfl
 | e::es=>by
  have:=Zao es;simp only[evCells,List.flatMap_cons,ZI,List.length_cons] at this ⊢;rw[this];simp;omega
theorem Zbj(a b:List Ev):evCells (a++b)=evCells a++evCells b:=by simp[evCells]
theorem Zbi(es:List Ev):∀ u∈evCells es,u.oneCell'=true:=by
 intro u hu;simp only[evCells,List.mem_flatMap] at hu;obtain⟨e,_,he⟩:=hu;simp at he;rcases he with rfl | rfl | rfl | rfl | rfl | rfl | rfl | rfl | rfl | rfl | rfl | rfl <;> rfl
theorem Zfx:∀ (es:List Ev) (i j:Nat) (e:Ev),es[i]? = some e->j<12->(evCells es)[i*12+j]? = (evArr e)[j]?
 | [],i,j,e,h,_=>by simp at h
 | x::es,0,j,e,h,hj=>by
  simp at h;subst h;simp only[evCells,List.flatMap_cons,Nat.zero_mul,Nat.zero_add];rw[List.getElem?_append_left ZP];simp
 | x::es,i+1,j,e,h,hj=>by
  have ih:=Zfx es i j e (by simpa using h) hj;rw[←ih];simp only[evCells,List.flatMap_cons];rw[List.getElem?_append_right ZP];congr 1;simp;omega
def EvSl(w:World)(a:Option Addr)(n cap:Nat)(es:List Ev):Prop :=
 n<=cap/\cap<=maxLen/\es.length=n/\(n=0∨∃ b off,a=some ⟨b,off,none⟩/\b<w.heap.size/\∀ i e,es[i]? = some e->∀ j,j<12->w.cell? ⟨b,off+i*12+j,none⟩=(evArr e)[j]?)
section
variable {w w':World}{a:Option Addr}{n cap:Nat}{es:List Ev}
theorem EvSl.nil(w:World):EvSl w none 0 0 []:=⟨ZL _,by unfold maxLen;omega,rfl,.inl rfl⟩
theorem EvSl.of_same(h:EvSl w a n cap es)(hk:∀ ad,a=some ad->ad.block<w.heap.size->w'.heap[ad.block]? = w.heap[ad.block]?)(hs:w.heap.size<=w'.heap.size):EvSl w' a n cap es:=by
 refine⟨h.1,h.2.1,h.2.2.1,?_⟩;rcases h.2.2.2 with h' | ⟨b,off,h1,h2,h3⟩
 ·exact .inl h'
 ·exact .inr ⟨b,off,h1,ZO,λ i e he j hj=>(World.cell?_of_block (w:=w) (a:=⟨b,off+i*12+j,none⟩) (hk ⟨b,off,none⟩ h1 h2)).trans (h3 i e he j hj)⟩
theorem EvSl.below(h:EvSl w a n cap es)(hb:Below w.heap.size w w'):EvSl w' a n cap es:=h.of_same (λ _ _ hl=>hb.block _ hl) hb.size
theorem EvSl.at_(h:EvSl w a n cap es){i:Nat}{e:Ev}(he:es[i]? = some e):∃ b off,a=some ⟨b,off,none⟩/\b<w.heap.size /\
  w.cell? ⟨b,off+i*12,none⟩=some (.int .i64 e.r)/\w.cell? ⟨b,off+i*12+1,none⟩=some (.int .i64 e.n)/\w.cell? ⟨b,off+i*12+2,none⟩=some (.int .i64 e.ctx.c0)/\w.cell? ⟨b,off+i*12+3,none⟩=some (.int .i64 e.ctx.c1) /\
  w.cell? ⟨b,off+i*12+4,none⟩=some (.int .i64 e.ctx.c2)/\w.cell? ⟨b,off+i*12+5,none⟩=some (.int .i64 e.ctx.c3)/\w.cell? ⟨b,off+i*12+6,none⟩=some (.int .i64 e.ctx.c4)/\w.cell? ⟨b,off+i*12+7,none⟩=some (.int .i64 e.height) /\
  w.cell? ⟨b,off+i*12+8,none⟩=some (.int .i64 e.kind)/\w.cell? ⟨b,off+i*12+9,none⟩=some (.string e.key)/\w.cell? ⟨b,off+i*12+10,none⟩=some (.int .i64 e.label)/\w.cell? ⟨b,off+i*12+11,none⟩=some (.string e.value):=by
 have hi:i<es.length:=(ZZ.1 he).1;rcases h.2.2.2 with h' | ⟨b,off,h1,h2,h3⟩
 ·have:=h.2.2.1;omega
 ·have g:=h3 i e he;exact⟨b,off,h1,h2,g 0 ZO,g 1 ZO,g 2 ZO,g 3 ZO,g 4 ZO,g 5 ZO,g 6 ZO,g 7 ZO,g 8 ZO,g 9 ZO,g 10 ZO,g 11 ZO⟩
theorem EvSl.ab{base:Nat}{v:Value}(h:w.ownsRow base 89 12 v n (evCells es)):∃ a cap,v = .slice a n cap/\EvSl w a n cap es:=by
 have hl:=h.1;rw[Zao] at hl;have pP:es.length=n:=ZO;rcases h.2 with ⟨rfl,rfl⟩|⟨g,cap,cur,rfl,hb,hg,eH,ic,gz,js⟩
 ·exact⟨none,0,rfl,ZL _,by unfold maxLen;omega,pP,.inl rfl⟩
 ·refine⟨_,_,rfl,eH,ic,pP,.inr ⟨g,0,rfl,Blk.lt (t:=89) hg,λ i e he j hj=>?_⟩⟩;have hi:i<es.length:=(ZZ.1 he).1;have hc:=cell_of_row w g (0+i*12+j) cur 89 (0,0) hg;rw[hc];have e1:=Zfx es i j e he hj;rw[←js] at e1;rw[List.getElem?_take,if_pos ZO] at e1;simpa using e1
theorem EvSl.reads(h:EvSl w a n cap es):Reads w w.heap.size 12 a n (evCells es):=by
 refine⟨by rw[Zao,h.2.2.1],λ hn=>?_⟩;rcases h.2.2.2 with h' | ⟨b,off,h1,h2,h3⟩
 ·omega
 ·refine⟨_,h1,h2,λ j u hu=>?_⟩;have hj:j<es.length*12:=by
   rw[←Zao];exact(ZZ.1 hu).1
  have hi:j / 12<es.length:=ZO;have he:es[j / 12]? = some es[j / 12]:=ZX hi;have g:=h3 _ _ he (j%12) ZO;have g2:=Zfx es _ (j%12) _ he ZO;have ej:j / 12*12+j%12=j:=ZO;rw[ej,hu] at g2;rw[←g2] at g;have ea:(⟨b,off,none⟩:Addr).add j=⟨b,off+j / 12*12+j%12,none⟩:=by
   have:off+j / 12*12+j%12=off+j:=ZO;rw[this];unfold Addr.add;by_cases h0:j=0 <;> simp[h0]
  rw[ea];exact g
end
end
abbrev Zbx(r n:Nat):Value := .agg #[.int .i64 r,.int .i64 n]
theorem Zg9:prog.plainKey 3=true:=ZK
theorem Zgf:prog.underlying 161=some (.struct (prog.fieldsOf 161)):=ZK
theorem ZnP:prog.stoodInHeld 161=false:=ZK
theorem Zmo:((prog.fieldsOf 161).toList.map λ f=>(f.name,f.type,f.offset))=[("R",3,0),("N",3,1)]:=ZK
theorem ZgP(a b:Nat):((a:Int)==(b:Int))=decide (a=b):=by
 rw[Bool.eq_iff_iff];simp only[beq_iff_eq,decide_eq_true_eq];omega
theorem Zje:∃ f g:Field,(prog.fieldsOf 161).toList=[f,g]/\f.name = "R" /\ f.type=3/\f.offset=0/\g.name = "N" /\ g.type=3/\g.offset=1:=by
 have h:=Zmo
 match hl:(prog.fieldsOf 161).toList with
 | [f,g] =>
  rw[hl] at h;simp only[List.map_cons,List.map_nil,List.cons.injEq,Prod.mk.injEq,and_true] at h;exact⟨f,g,rfl,h.1.1,h.1.2.1,h.1.2.2,h.2.1,h.2.2.1,h.2.2.2⟩
 | []=>rw[hl] at h;simp at h
 | [_]=>rw[hl] at h;simp at h
 | _::_::_::_=>rw[hl] at h;simp at h
theorem Zfg(r n:Nat)(w:World):(Go.part 3 #[.int .i64 (r:Int),.int .i64 (n:Int)] 0).run prog w = .ok (.int .i64 r) w/\(Go.part 3 #[.int .i64 (r:Int),.int .i64 (n:Int)] 1).run prog w = .ok (.int .i64 n) w :=
 ⟨run_part_plain (P:=prog) (w:=w) Zg9 rfl,run_part_plain (P:=prog) (w:=w) Zg9 rfl⟩
theorem ZjI(r n r' n':Nat)(w:World):(Op.equal 161 (Zbx r n) (Zbx r' n')).run prog w = .ok (decide (r=r'/\n=n')) w:=by
 obtain⟨f,g,hl,f1,f2,f3,g1,g2,g3⟩:=Zje;unfold Op.equal;rw[show Op.maxDepth=9999+1 from rfl,run_equalIn_struct w 9999 _ _ _ Zgf ZnP,hl];have hq:∀ (a b:Nat) (w:World),(Op.equalIn 9999 3 (.int .i64 (a:Int)) (.int .i64 (b:Int))).run prog w = .ok (decide (a=b)) w:=λ a b w=>by
  rw[←ZgP];exact run_equalIn_int (P:=prog) w 9998 3 .i64 .i64 a b underlying3
 have p1:=Zfg r n w;have p2:=Zfg r' n' w;simp only[Op.eqFields,ne_eq,String.reduceEq,not_false_eq_true,if_true,f1,f2,f3,g1,g2,g3,Sem.run_bind,p1.1,p2.1,hq,Result.andThen_ok];rcases hc:decide (r=r') with _ | _
 ·simp at hc;simp[hc]
 ·simp only[decide_eq_true_eq] at hc;subst hc;simp only[Bool.not_true,Bool.false_eq_true,if_false,Sem.run_bind,p1.2,p2.2,hq,Result.andThen_ok];by_cases h2:n=n' <;> simp[h2]
theorem Zhg(e:Bool)(r n d:Nat)(w:World):(Instr.checkKey e (d+1+1) 161 (Zbx r n)).run prog w = .ok () w:=by
 obtain⟨f,g,hl,f1,f2,f3,g1,g2,g3⟩:=Zje;have p1:=Zfg r n w;have hk:=λ(x:Nat)=>Go.MapKept.run_checkKey (P:=prog) (w:=w) (kt:=3) (k := .int .i64 (x:Int)) underlying3 rfl e d
 rw[Instr.checkKey];simp only[Sem.run_bind,run_underlying Zgf,Result.andThen_ok];rw[←Array.forIn_toList,hl];simp only[List.forIn_cons,List.forIn_nil,Sem.run_bind,f1,f2,f3,g1,g2,g3,p1.1,p1.2,hk,Result.andThen_ok,ne_eq,String.reduceEq,not_false_eq_true,if_true,Sem.run_pure]
theorem Zdy(e:Bool)(r n:Nat)(w:World):(Instr.checkKey e 10000 161 (Zbx r n)).run prog w = .ok () w:=Zhg e r n 9998 w
theorem Zhh(r n:Nat)(w:World):∀ (es:List MapEntry) (l:List Ev) (i:Nat),es.map (λ e=>(e.key,e.val))=l.map (λ e=>(Zbx e.r e.n,Zaa e)) ->
  (Instr.findAsking 161 (Zbx r n) es i).run prog w = .ok ((l.findIdx? λ e=>decide (e.r=r/\e.n=n)).bind λ k=>(l[k]?).map λ e=>(i+k,Zaa e)) w
 | [],l,i,h=>by
  have:l=[]:=by simpa using h.symm
  subst this;simp[Instr.findAsking]
 | x::es,[],i,h=>by simp at h
 | x::es,e::l,i,h=>by
  simp only[List.map_cons,List.cons.injEq,Prod.mk.injEq] at h;obtain⟨⟨h1,h2⟩,h3⟩:=h;have ih:=Zhh r n w es l (i+1) h3;simp only[Instr.findAsking,Sem.run_bind,h1,ZjI,Result.andThen_ok];by_cases hc:r=e.r/\n=e.n
  ·obtain⟨rfl,rfl⟩:=hc;simp[List.findIdx?_cons,h2]
  ·have EK:¬ (e.r=r/\e.n=n):=λ h=>hc ⟨h.1.symm,h.2.symm⟩
   simp only[hc,decide_false,Bool.false_eq_true,if_false,ih,List.findIdx?_cons,EK]
   cases hf:l.findIdx? λ e=>decide (e.r=r/\e.n=n) with
   | none=>simp
   | some k=>simp;congr 1;funext x;congr 1;omega
def Zb1(r n:Nat)(l:List Ev):Option Ev:=l.find? λ e=>decide (e.r=r/\e.n=n)
def MapEv(w:World)(b:Nat)(l:List Ev):Prop:=∃ es clk,w.heap[b]? = some (.map es clk)/\es.toList.map (λ e=>(e.key,e.val))=l.map λ e=>(Zbx e.r e.n,Zaa e)
theorem Zd3(r n:Nat)(w:World)(es:List MapEntry)(l:List Ev)(h:es.map (λ e=>(e.key,e.val))=l.map (λ e=>(Zbx e.r e.n,Zaa e))):
  (Instr.findKey 161 (Zbx r n) es).run prog w = .ok ((l.findIdx? λ e=>decide (e.r=r/\e.n=n)).bind λ k=>(l[k]?).map λ e=>(k,Zaa e)) w:=by
 rw[run_findKey_eq w (by rw[Zgf]),Zhh r n w es l 0 h];simp
theorem Zld(l:List Ev)(p:Ev->Bool):(match (l.findIdx? p).bind λ k=>(l[k]?).map λ e=>(k,Zaa e) with | some (_,v)=>some v | none=>none)=(l.find? p).map Zaa:=by
 induction l with
 | nil=>simp
 | cons e l ih =>
  simp only[List.findIdx?_cons,List.find?_cons]
  cases h:p e with
  | true=>simp
  | false =>
   rw[←ih]
   cases l.findIdx? p with
   | none=>simp
   | some k=>cases h2:l[k]? <;> simp[h2]
abbrev Zqw:TypeId:=301
theorem ZrJ:(prog.info? 89).map (·.zero)=some (some (.agg Zj)):=ZK
theorem ZrK(w:World):(zeroValue 89).run prog w = .ok (.agg Zj) w:=by
 have h:=ZrJ
 cases hq:prog.info? 89 with
 | none=>rw[hq] at h;simp at h
 | some i =>
  rw[hq] at h;have hz:i.zero=some (.agg Zj):=by simpa using h
  simp[zeroValue,typeInfo,hq,hz]
theorem Zd5{w:World}{b:Nat}{l:List Ev}(h:MapEv w b l)(r n:Nat):
  (Instr.lookup Zqw (.map (some b)) (Zbx r n) true).run prog w = .ok (match Zb1 r n l with | some e => .tuple #[Zaa e,.bool true] | none => .tuple #[.agg Zj,.bool false]) w:=by
 obtain⟨es,clk,hb,gP⟩:=h;have hf:=Zld l (λ e=>decide (e.r=r/\e.n=n));have hk:=Zd3 r n w es.toList l gP;have hu:=run_underlying (w:=w) underlying301;have hg:(getObj b).run prog w = .ok (.map es clk) w:=by simp[getObj,Sem.run,hb]
 have hc:=Zdy es.isEmpty r n w;unfold Zb1;rw[Instr.lookup];simp only[Sem.run_bind,hu,Result.andThen_ok,hg,hc,hk,Sem.run_pure];generalize (l.findIdx? λ e=>decide (e.r=r/\e.n=n)).bind (λ k=>(l[k]?).map λ e=>(k,Zaa e))=x at hf ⊢
 cases hx:l.find? λ e=>decide (e.r=r/\e.n=n) with
 | none =>
  rw[hx] at hf
  cases x with
  | none=>simp
  | some y=>simp at hf
 | some e =>
  rw[hx] at hf
  cases x with
  | none=>simp at hf
  | some y =>
   obtain⟨y1,y2⟩:=y;have:y2=Zaa e:=by simpa using hf
   subst this;simp
theorem Zkv{l:List Ev}{p:Ev->Bool}(h:l.find? p=none):l.findIdx? p=none:=by
 rw[List.findIdx?_eq_none_iff];intro x hx;have:=List.find?_eq_none.1 h x hx;simpa using this
theorem Zca(w:World)(b:Nat)(o:Obj):w.grownBy { w with heap:=w.heap.setIfInBounds b o } (some b) :=
 ⟨rfl,rfl,rfl,ZM,λ k _ hk=>by
  have:b≠k:=λ e=>hk (by rw[e])
  simp[Array.getElem?_setIfInBounds_ne this]⟩
theorem Zi5{w:World}{b:Nat}{l:List Ev}(h:MapEv w b l)(e:Ev)(hn:Zb1 e.r e.n l=none):
  ∃ w',(Instr.mapUpdate Zqw (.map (some b)) (Zbx e.r e.n) (Zaa e)).run prog w = .ok () w'/\MapEv w' b (l++[e])/\w.grownBy w' (some b):=by
 obtain⟨es,clk,hb,gP⟩:=h;have hk:=Zd3 e.r e.n w es.toList l gP;rw[Zkv hn] at hk;have hu:=run_underlying (w:=w) underlying301;have hg:(getObj b).run prog w = .ok (.map es clk) w:=by simp[getObj,Sem.run,hb]
 have hc:=Zdy false e.r e.n w;have ce:b<w.heap.size:=by
  rcases Nat.lt_or_ge b w.heap.size with h | h
  ·exact h
  ·rw[Array.getElem?_eq_none h] at hb;cases hb
 refine⟨{ w with heap:=w.heap.setIfInBounds b (.map (es.push { key:=Zbx e.r e.n,val:=Zaa e,born:=clk }) (clk+1)) },?_,⟨es.push { key:=Zbx e.r e.n,val:=Zaa e,born:=clk },clk+1,by simp[ce],?_⟩,Zca _ _ _⟩
 ·rw[Instr.mapUpdate];simp only[Sem.run_bind,hu,Result.andThen_ok,hg,hc,hk,Option.bind_none];simp[setObj,Sem.run,hb]
 ·simp[gP]
theorem ZcW{α β : Type}(f : α -> β):∀ (l:List α) (i:Nat),(l.map f).eraseIdx i=(l.eraseIdx i).map f
 | [],_=>rfl
 | _::_,0=>rfl
 | x::l,i+1=>by simp[ZcW f l i]
def Zdp(r n:Nat)(l:List Ev):List Ev:=l.eraseP λ e=>decide (e.r=r/\e.n=n)
theorem Zi4{w:World}{b:Nat}{l:List Ev}(h:MapEv w b l)(r n:Nat)(ty:TypeId):
  ∃ w',(Builtin.delete_ #[Zqw,161] ty #[.map (some b),Zbx r n]).run prog w = .ok (.tuple #[]) w'/\MapEv w' b (Zdp r n l)/\w.grownBy w' (some b):=by
 obtain⟨es,clk,hb,gP⟩:=h;have hk:=Zd3 r n w es.toList l gP;have hu:=run_underlying (w:=w) underlying301;have hg:(getObj b).run prog w = .ok (.map es clk) w:=by simp[getObj,Sem.run,hb]
 have hc:=Zdy es.isEmpty r n w;have ce:b<w.heap.size:=by
  rcases Nat.lt_or_ge b w.heap.size with h | h
  ·exact h
  ·rw[Array.getElem?_eq_none h] at hb;cases hb
 have hd:Zdp r n l=match l.findIdx? λ e=>decide (e.r=r/\e.n=n) with | none=>l | some i=>l.eraseIdx i:=List.eraseP_eq_eraseIdx
 have hlen:es.toList.length=l.length:=by have:=congrArg List.length gP;simpa using this
 rw[hd]
 cases hi:l.findIdx? λ e=>decide (e.r=r/\e.n=n) with
 | none =>
  rw[hi] at hk;refine⟨{ w with heap:=w.heap.setIfInBounds b (.map es clk) },?_,⟨es,clk,by simp[ce],gP⟩,Zca _ _ _⟩;simp only[Builtin.delete_,ZD,ZE,ZG,Sem.run_bind,hu,Result.andThen_ok,hg,hc,hk,Option.bind_none];simp[setObj,Sem.run,hb]
 | some i =>
  have nQ:i<l.length:=by
   have:=List.findIdx?_eq_some_iff_findIdx_eq.1 hi;exact this.1
  rw[hi,Option.bind_some,ZX nQ,Option.map_some] at hk;refine⟨{ w with heap:=w.heap.setIfInBounds b (.map (es.eraseIdxIfInBounds i) clk) },?_,⟨es.eraseIdxIfInBounds i,clk,by simp[ce],?_⟩,Zca _ _ _⟩
  ·simp only[Builtin.delete_,ZD,ZE,ZG,Sem.run_bind,hu,Result.andThen_ok,hg,hc,hk];simp[setObj,Sem.run,hb]
  ·obtain⟨RZ⟩:=es;simp only[List.eraseIdxIfInBounds_toArray];have Lt:RZ.map (λ e=>(e.key,e.val))=l.map λ e=>(Zbx e.r e.n,Zaa e):=gP
   rw[←ZcW,Lt,ZcW]
def Ev.below(a b:Ev):Bool:=b.ctx.has a.r a.n
theorem Zfm(a b:Ev)(w:World)(hr:a.r<5):Calls prog 218 #[Zaa a,Zaa b] w (Zv (.bool (a.below b)) w):=by
 have hx:=λ W=>Zjq b.ctx a.r a.n W hr
 have e1:a.below b=b.ctx.has a.r a.n:=rfl;rw[e1];clear e1;go_enter func218,ntmps218;go_wp2_with fail;refine(hx _).mono ?_;rintro r w1 ⟨rfl,bS⟩;go_wp2
 go_ret;exact⟨rfl,((((ZKr w).alloc _).alloc _).step bS).below⟩
def maxH(c:Clk)(l:List Ev):Nat:=((l.filter λ e=>c.has e.r e.n).map (·.height)).foldl max 0
def ZdO(l:List Ev)(c:Clk):Nat:=maxH c l+1
theorem Zpe(c:Clk)(l:List Ev)(e:Ev):maxH c (l++[e])=if c.has e.r e.n=true then max (maxH c l) e.height else maxH c l:=by
 unfold maxH;rw[List.filter_append];by_cases h:c.has e.r e.n=true <;> simp[h]
theorem Zag{l:List Ev}{q:Nat}{e:Ev}(h:l[q]? = some e):l.take (q+1)=l.take q++[e]:=by
 rw[List.take_add_one,h];rfl
theorem ZnD(l:List Ev)(c:Clk)(a:Option Addr)(n cap:Nat)(w:World)(h:EvSl w a n cap l)(hl:∀ e∈l,e.r<5/\e.height<=16777216):
  Calls prog 67 #[.slice a n cap,Za2 c] w (Zv (.int .i64 (ZdO l c)) w):=by
 have HN:=ZH (h.2.2.1);have Ft:=h.1;have ic:=h.2.1;obtain⟨HA,HK,HL,HS⟩:=ZH4 (ZBn w 44 (clkArr c)) ((ZKr w).alloc (.cells (clkArr c) 44)) hl h;unfold maxLen at ic;have Fq:maxH c l<=16777216:=by
  have:∀ (m:List Ev) (z:Nat),z<=16777216->(∀ e∈m,e.height<=16777216)->((m.filter λ e=>c.has e.r e.n).map (·.height)).foldl max z<=16777216:=by
   intro m
   induction m with
   | nil=>intro z hz _;exact hz
   | cons e m ih =>
    intro z hz hm;have:=hm e ZM;by_cases hc:c.has e.r e.n=true
    ·simp only[List.filter_cons,hc,if_true,List.map_cons,List.foldl_cons];exact ih _ ZO (λ x hx=>hm x (by simp[hx]))
    ·simp only[List.filter_cons,hc];exact ih _ hz (λ x hx=>hm x (by simp[hx]))
  exact this l 0 ZO (λ e he=>(hl e he).2)
 have HM:=ZH Fq;clear hl h Fq;go_enter func67,ntmps67;go_wp2_with fail;go_loopw [5,6,11] (λ g s i wr=>∃ (q:Nat) (b:Bool),q<=n/\i = .int .i64 q/\g = .int .i64 (maxH c (l.take q))/\s = .bool b/\Hid (b=false->maxH c (l.take q)=0)/\maxH c (l.take q)<=16777216/\Hid (Blk wr w.heap.size 44 (clkArr c))/\Hid (Kept w.heap.size w wr)) (λ _ _ i _=>n-(intOf i).toNat)
 case atStart=>exact⟨0,false,ZO,rfl,rfl,rfl,ZH (λ _=>rfl),by simp[maxH],HA,HK⟩
 case round =>
  clear HA HK;obtain⟨q,b,hq,rfl,rfl,rfl,HZ,Cd,HA,HK⟩:=hrel;by_cases dy:q<n
  ·obtain⟨e,he⟩:∃ e,l[q]? = some e:=⟨_,ZX (by rw[HN.out];exact dy)⟩;obtain⟨r5,Oc⟩:=HL.out e (ZY he);have hs:=HS.out.of_same (w':=wr) (λ ad _ hl=>HK.out.below.block _ hl) HK.out.le;obtain⟨bk,off,rfl,cQ,c0,c1,c2,c3,c4,c5,c6,c7,c8,c9,cP,cR⟩:=hs.at_ he;obtain⟨k0,k1,k2,k3,k4⟩:=HA.out.aE;have it:=Zag he;have nV:=Zpe c (l.take q) e;rw[←it] at nV;have ce:=HA.out.lt;obtain⟨rb,HE⟩:=ZH2 nV he;clear it nV hs he;go_wp2_with fail;refine(Zjq c e.r e.n _ r5).mono ?_;rintro r w2 ⟨rfl,bW⟩;have fH:=(ZBn wr 89 (evArr e)).ob bW;obtain⟨d0,d1,d2,d3,d4,d5,d6,d7,d8,d9,xV,sZ⟩:=fH.ae;obtain⟨pi,cr⟩:=ZH2 ((HA.out.alloc (.cells (evArr e) 89)).ob bW) ((HK.out.alloc (.cells (evArr e) 89)).step bW);have iV:=fH.lt;clear fH bW c0 c1 c2 c3 c4 c5 c6 c7 c8 c9 cP cR k0 k1 k2 k3 k4;rcases pM:c.has e.r e.n with _ | _
   ·have nV:=rb.out;rw[pM,if_neg ZM] at nV;have HQ:Hid (b=false->maxH c (l.take (q+1))=0):=ZH (λ h=>by rw[nV];exact HZ.out h);rw[←nV] at Cd;have gB:Value.int .i64 (maxH c (l.take q)) = .int .i64 (maxH c (l.take (q+1))):=by rw[nV]
    rw[gB];clear nV gB rb;go_wp2
    go_roundw
    case rel=>exact⟨q+1,b,ZO,ZN,rfl,rfl,HQ,Cd,pi,cr⟩
    case measure=>simp[intOf];omega
   ·have nV:=rb.out;rw[pM,if_pos rfl] at nV;rcases b with _ | _
    ·have h0:=HZ.out rfl;have hM:maxH c (l.take (q+1))=e.height:=by rw[nV,h0];omega
     have oU:=ZH hM;clear nV h0 hM rb;generalize maxH c (l.take q)=M0 at *;go_wp2
     go_roundw
     case rel=>exact⟨q+1,true,ZO,ZN,by rw[oU.out],rfl,ZH (λ h=>by cases h),by rw[oU.out];exact Oc,pi,cr⟩
     case measure=>simp[intOf];omega
    ·rcases Nat.lt_or_ge (maxH c (l.take q)) e.height with yq | fc
     ·have hM:maxH c (l.take (q+1))=e.height:=by rw[nV];omega
      have oU:=ZH hM;have hd:decide (maxH c (l.take q)<e.height)=true:=ZP;clear nV hM rb;generalize maxH c (l.take q)=M0 at *;go_wp2
      go_roundw
      case rel=>exact⟨q+1,true,ZO,ZN,by rw[oU.out],rfl,ZH (λ h=>by cases h),by rw[oU.out];exact Oc,pi,cr⟩
      case measure=>simp[intOf];omega
     ·have hM:maxH c (l.take (q+1))=maxH c (l.take q):=by rw[nV];omega
      have oU:=ZH hM;have hd:decide (maxH c (l.take q)<e.height)=false:=ZP;clear nV hM rb;go_wp2
      go_roundw
      case rel=>exact⟨q+1,true,ZO,ZN,by rw[oU.out],rfl,ZH (λ h=>by cases h),by rw[oU.out];exact Cd,pi,cr⟩
      case measure=>simp[intOf];omega
  ·obtain rfl:q=n:=ZO;have hM:maxH c (l.take q)=maxH c l:=by rw[ZU (by rw[HN.out];omega)]
   have oU:=ZH hM;have dx:((maxH c l:Nat):Int)+1=((ZdO l c:Nat):Int):=by unfold ZdO;omega
   have HF:=ZH dx;clear hM dx HZ;generalize maxH c (l.take q)=M0 at *;go_wp2
   go_ret;exact⟨Zr8 (by rw[oU.out];exact HF.out),HK.out.below⟩
end Go.Proofs.YtjkfognelhiepaaGreat
