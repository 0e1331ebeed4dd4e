import Derived.Test.YtjkfognelhiepaaGreatR03
namespace Go.Proofs.YtjkfognelhiepaaGreat
open Go.RowKit _root_.Go.Proofs.Tryz
open Value renaming slice→S_,int→I_,bool→B_,string→T_,pointer→P_
open IntKind renaming i64→J_
open Obj renaming cells→C_
open Ending renaming returned→R_
set_option maxRecDepth 100000
set_option maxHeartbeats 8000000
variable{most p t:Nat}{sh:List Sh}{w:World}
def Zad(sh:List Sh)(r:Nat)(c:Clk):Nat->List Ev
 | 0=>[]
 |k+1=>Zad sh r c k++(match sh[k]? with|some s=>if k=r then [] else Zbd (c.get k) s.kept|none=>[])
theorem ZiI{sh:List Sh}{r:Nat}{c:Clk}(h:∀s∈sh,s.kept.length<=1000):∀k,(Zad sh r c k).length<=k*1000
 | 0=>ZL _
 |k+1=>by
  have ih:=ZiI (r:=r) (c:=c) h k;unfold Zad;rw[ZI];have:(match sh[k]? with|some s=>if k=r then [] else Zbd (c.get k) s.kept|none=>[]).length<=1000:=by
   cases hs:sh[k]? with
   |none=>simp
   |some s =>
    simp only[];split
    ·simp
    ·have h1:=h s (ZY hs);have h2:=List.length_filter_le (λe:Ev=>decide (c.get k<e.n)) s.kept;unfold Zbd;omega
  omega
theorem ZpC{own:Own}{told:List Clk}(h:PostAt own t w p most sh told)(hN:sh.length<=5)(r:Nat)(kT:r<sh.length)(c:Clk)(hk:∀s∈sh,s.kept.length<=1000)(hf:Fresh own w):
  Calls prog 141 #[P_ (some ⟨p,0,none⟩),I_ J_ r,Zbh c] w λrr w'=>∃v,rr=R_ (.tuple #[v,I_ J_ 0])/\w'.ownsRow w.heap.size 89 12 v (Zad sh r c sh.length).length (evCells (Zad sh r c sh.length))/\Below w.heap.size w w':=by
 obtain⟨H,HF,AS⟩:=ZH3 h hf hk;have uA:=(ZKr w).alloc (C_ (clkArr c) 44);obtain⟨oK,Mn,ed⟩:=ZH3 (ZBn w 44 (clkArr c)) (h.upd (ZUb (T:=λ_=>False) uA.below hf) (λi _ h=>h)) uA;obtain⟨i0,hi,dd,cV,dc⟩:=info_parts ZbV;clear h hf hk uA;go_enter func141,ntmps141;go_wp2_with fail;refine(Zjk Mn.out r).mono ?_;rintro _ w1 ⟨rfl,cz⟩;rw[show decide (r<sh.length)=true by simp[kT]];have fe:=ed.out.step cz;have HC:=ZH (oK.out.ob cz);have kS:=H.out.upd (ZUb (T:=λ_=>False) fe.below HF.out) (λi _ h=>h);have HO:Hid (w1.ownsRow w1.heap.size 89 12 (S_ none 0 0) (Zad sh r c 0).length (evCells (Zad sh r c 0))):=ZH (⟨rfl,.inl ⟨rfl,rfl⟩⟩);obtain⟨g1,g2,gs,ut,gt,cs,h3,g4,g5,h6,h7,h8,h9⟩:=kS;obtain⟨c0,c1⟩:=h3.two;have cI:=h3.lt;obtain⟨da,HG,H9⟩:=ZH3 fe h7 h9;have Lf:Hid (Fresh own w1):=ZH (ZUb (T:=λ_=>False) fe.below HF.out).fresh;have HK:=ZH (ZKr w1);clear fe cz h3 h7 h8 h9 g1 g2 g4 g5;go_wp2_with fail;go_loopw [8,20] (λv i wr=>∃k:Nat,k<=sh.length/\i=I_ J_ k/\Hid (wr.ownsRow w1.heap.size 89 12 v (Zad sh r c k).length (evCells (Zad sh r c k)))/\Hid (Kept w1.heap.size w1 wr)) (λ_ i _=>sh.length-(intOf i).toNat)
 case atStart=>exact⟨0,ZO,rfl,HO,HK⟩
 case round =>
  skip
  obtain⟨k,i6,rfl,HO,HK⟩:=hrel;by_cases gh:k<sh.length
  ·obtain⟨x,hx⟩:∃x,sh[k]? = some x:=⟨_,ZX gh⟩;obtain⟨q,iN,j7⟩:=H9.out k x hx;have hG:=HG.out.ob HK.out.below;have sP:=hG.cell k;rw[iN]at sP;have G7:=hG.lt;have kn:(k:Int)<(sh.length:Int):=ZO;have cR:(0:Int)<=(k:Int):=ZO;have pT:Zad sh r c (k+1)=Zad sh r c k++(if k=r then [] else Zbd (c.get k) x.kept):=by
    rw[Zad,hx]
   have hlen:=ZiI AS.out (r:=r) (c:=c) k;have fV:=AS.out x (ZY hx);have gc:=ZH pT;obtain⟨aa,fC,rfl,_⟩:=EvSl.ae HO.out;have HQ:=ZH (j7.upd (ZUb (T:=λ_=>False) HK.out.below Lf.out) (λh=>h));have ny:=(HC.out.ob HK.out.below).clk (i:=k) ZO;have fg:=(HC.out.ob HK.out.below).lt;have eM:(k:Int)<5:=ZO;clear hx iN j7 hG pT;by_cases ig:k=r
   ·subst ig;rw[ZPp rfl,List.append_nil]at gc;have dR:((k:Int)==(k:Int))=true:=ZM;go_wp2
    go_roundw
    case rel=>exact⟨k+1,ZO,ZN,by rw[gc.out];exact HO,HK⟩
    case measure=>simp[intOf];omega
   ·rw[ZPn ig]at gc;have dR:((k:Int)==(r:Int))=false:=ZP;go_wp2_with fail;refine(ZpQ HQ.out (c.get k) ZO).mono ?_;rintro _ w3 ⟨v3,rfl,fd,cG⟩;obtain⟨a3,dK,rfl,ku⟩:=EvSl.ae fd;have dr:=HK.out.step cG;have sK:=Ze HO.out cG;have kN:=List.length_filter_le (λe:Ev=>decide (c.get k<e.n)) x.kept;have hfl2:(Zbd (c.get k) x.kept).length<=1000:=by unfold Zbd;omega
    have eB:w1.heap.size<=w3.heap.size:=dr.le;obtain⟨cU,iR,i8⟩:=ZH3 dr sK ku;clear dr sK ku fd cG kN;go_wp2_with (at_builtin;refine Zc _ rfl (.tmp 28) (.tmp 33) _ rfl w1.heap.size 89 i0 _ 12 112 underlying128 hi dd cV dc rfl ZO (S_ aa (Zad sh r c k).length fC) (Zad sh r c k).length (evCells (Zad sh r c k)) rfl iR.out w3.heap.size a3 (Zbd (c.get k) x.kept).length dK (evCells (Zbd (c.get k) x.kept)) rfl i8.out.reads (ZbC _) ZF ZO eB ?_;intro v7 w7 cF db ey)
    have it:w7.ownsRow w1.heap.size 89 12 v7 (Zad sh r c (k+1)).length (evCells (Zad sh r c (k+1))):=by
     rw[gc.out,ZI,ZbE];exact cF
    have fx:Hid (Kept w1.heap.size w1 w7):=ZH (⟨cU.out.below.grown db cU.out.le (λg hg=>(Zb iR.out hg).1),ZT cU.out.le db.size⟩);have iG:=ZH it;go_roundw
    case rel=>exact⟨k+1,ZO,ZN,iG,fx⟩
    case measure=>simp[intOf];omega
  ·obtain rfl:k=sh.length:=ZO;obtain⟨aa,fC,rfl,_⟩:=EvSl.ae HO.out;go_wp2_with fail;go_ret2
   exact⟨_,rfl,Zj HO.out da.out.le,(da.out.trans HK.out da.out.le).below⟩
def Zav(sh:List Sh)(told:List Clk):Nat->List Sh
 | 0=>sh
 |k+1=>match (Zav sh told k)[k]? with|some x=>(Zav sh told k).set k (cutSh told k x)|none=>Zav sh told k
theorem Zcy(sh:List Sh)(told:List Clk):∀k,(Zav sh told k).length=sh.length
 | 0=>rfl
 |k+1=>by
  unfold Zav;split
  ·rw[List.length_set,Zcy sh told k]
  ·exact Zcy sh told k
theorem ZgJ(sh:List Sh)(told:List Clk):∀k j,k<=j->(Zav sh told k)[j]? = sh[j]?
 | 0,j,_=>rfl
 |k+1,j,h=>by
  unfold Zav;split
  ·rw[List.getElem?_set_ne ZO,ZgJ sh told k j ZO]
  ·exact ZgJ sh told k j ZO
theorem ZhL:∀(l:List Clk) (i:Nat) (c:Clk),i<l.length->clkCells (l.set i c)=(clkCells l).take (i*5)++(clkArr c).toList++(clkCells l).drop (i*5+5)
 |x::l,0,c,_=>by
  have e:clkCells (x::l)=(clkArr x).toList++clkCells l:=rfl;have e2:clkCells (c::l)=(clkArr c).toList++clkCells l:=rfl;rw[ZB,e2,e];simp
 |x::l,i+1,c,h=>by
  have e:clkCells (x::l)=(clkArr x).toList++clkCells l:=rfl;have e2:clkCells (x::l.set i c)=(clkArr x).toList++clkCells (l.set i c):=rfl;rw[ZC,e2,e,ZhL l i c (by simpa using h)];obtain⟨X,hX⟩:∃X,X=(clkArr x).toList:=⟨_,rfl⟩;have h5:X.length=5:=by rw[hX];rfl
  rw[←hX];have t1:(X++clkCells l).take ((i+1)*5)=X++(clkCells l).take (i*5):=by
   rw[List.take_append,h5,ZU ZO,show(i+1)*5-5=i*5 by omega]
  have t2:(X++clkCells l).drop ((i+1)*5+5)=(clkCells l).drop (i*5+5):=by
   rw[List.drop_append,h5,List.drop_of_length_le ZO,show(i+1)*5+5-5=i*5+5 by omega,List.nil_append]
  rw[t1,t2];simp only[List.append_assoc]
theorem PostAt.tell{own:Own}{r gt:Nat}{told:List Clk}{gs cap:Nat}{cs:Array Value}(c:Clk)
  (h1:own p=t) (h2:told.length=sh.length) (h3:Blk w p 243 #[S_ (some ⟨gs,0,none⟩) sh.length cap,S_ (some ⟨gt,0,none⟩) sh.length sh.length]) (h4:own gs=t) (h5:own gt=t) (h6:sh.length<=cap) (h7:Blk w gs 244 cs) (h8:Blk w gt 44 (clkCells told).toArray)
  (h9:∀i s,sh[i]? = some s->∃q,cs[i]? = some (P_ (some ⟨q,0,none⟩))/\ShelfAt own (t+1+i) w q most s.base s.kept) (hr:r<sh.length) (hf:Fresh own w) :
  PostAt own t (setAll w gt (r*5) (clkArr c).toList) p most sh (told.set r c):=by
 have hb:=Zbr (clkArr c).toList (r*5) w (clkCells told) h8 (by rw[ZcE];show r*5+5<=told.length*5;omega);have fg:(clkCells told).take (r*5)++(clkArr c).toList++(clkCells told).drop (r*5+(clkArr c).toList.length)=clkCells (told.set r c):=(ZhL told r c ZO).symm;rw[fg]at hb;have hu:Upd (· = t) own own w (setAll w gt (r*5) (clkArr c).toList):=(Upd.refl _ own w hf).setAll (λ_=>h5) _ _;have Ie:p≠gt:=λe=>by
  have:=h3.cm h8 ZJ;exact this e
 have V9:gs≠gt:=λe=>by
  have:=h7.cm h8 ZJ;exact this e
 refine⟨h1,by rw[List.length_set];exact h2,gs,cap,gt,cs,(Zai Ie _ _ _).trans h3,h4,h5,h6,(Zai V9 _ _ _).trans h7,hb,λi s hs=>?_⟩;obtain⟨q,iN,j7⟩:=h9 i s hs;exact⟨q,iN,j7.upd hu ZO⟩
theorem ZmZ{own:Own}{told:List Clk}(h:PostAt own t w p most sh told)(hf:Fresh own w)(hN:sh.length<=5)(r:Nat)(kT:r<sh.length)(c:Clk)(hc:∀i,c.get i<=2000000){tr:Clk}(pV:told[r]? = some tr)(gH:∀i,tr.get i<=2000000)(hk:∀s∈sh,s.kept.length<=1000000/\s.base<=1000000):
  Calls prog 90 #[P_ (some ⟨p,0,none⟩),I_ J_ r,Zbh c] w λrr w'=>rr=R_ (I_ J_ 0)/\∃own',PostAt own' t w' p most (Zav sh (told.set r (tr.join c)) sh.length) (told.set r (tr.join c))/\Upd (λm=>t<=m/\m<=t+sh.length) own own' w w':=by
 obtain⟨H,HF,AS⟩:=ZH3 h hf hk;have uA:=(ZKr w).alloc (C_ (clkArr c) 44);obtain⟨oK,Mn,ed⟩:=ZH3 (ZBn w 44 (clkArr c)) (h.upd (ZUb (T:=λ_=>False) uA.below hf) (λi _ h=>h)) uA;have nb:(0:Int)<=(r:Int):=ZO;have nE:(r:Int)<(sh.length:Int):=ZO;obtain⟨pg,qB,TK⟩:=ZH3 pV gH hc;clear h hf hk uA pV gH hc;go_enter func90,ntmps90;go_wp2_with fail;refine(Zjk Mn.out r).mono ?_;rintro _ w1 ⟨rfl,cz⟩;rw[show decide (r<sh.length)=true by simp[kT]];have fe:=ed.out.step cz;have NG:=oK.out.ob cz;have kS:=H.out.upd (ZUb (T:=λ_=>False) fe.below HF.out) (λi _ h=>h);have Lf:Hid (Fresh own w1):=ZH ((ZUb (T:=λ_=>False) fe.below HF.out).fresh);obtain⟨g1,g2,gs,ut,gt,cs,h3,g4,g5,h6,h7,h8,h9⟩:=kS;obtain⟨c0,c1⟩:=h3.two;have cI:=h3.lt;have OM:=h8.lt;obtain⟨e0,e1,e2,e3,e4⟩:=NG.aG;have CA:=NG.lt;have d0:=h8.aE pg.out (j:=0) ZO;have d1:=h8.aE pg.out (j:=1) ZO;have d2:=h8.aE pg.out (j:=2) ZO;have d3:=h8.aE pg.out (j:=3) ZO;have d4:=h8.aE pg.out (j:=4) ZO;simp only[Nat.add_zero,Clk.get]at d0 d1 d2 d3 d4;obtain⟨da,H3,H7,H8,H9,G1,G2,G4,G5⟩:=ZH9 fe h3 h7 h8 h9 g1 g2 g4 g5;clear fe NG cz h3 h7 h8 h9 g1 g2 g4 g5;go_wp2_with fail;refine ZSi [(0,3),(1,0),(2,3),(3,0),(4,3),(5,3),(6,0),(7,3),(8,0),(9,3),(10,3),(11,0),(12,0),(13,1),(14,3),(15,2)] λcu=>?_
 repeat((first|refine ZSa ?_|refine ZSb ?_|refine ZSc ?_);simp only[Act.put,Q_])
 refine ZSd λK hK=>?_
 go_simp;obtain⟨J,hJ⟩:∃J,J=tr.join c:=⟨_,rfl⟩;refine(Zse tr c w1.drew qB.out TK.out).mono ?_;rintro _ w2 ⟨rfl,cD⟩;rw[←hJ];have cX:=(Kept.drew (ZKr w1)).step cD;have sq:=H8.out.ob cX.below;have sH:=sq.lt;have n0:=sq.aE pg.out (j:=0) ZO;have n1:=sq.aE pg.out (j:=1) ZO;have n2:=sq.aE pg.out (j:=2) ZO;have n3:=sq.aE pg.out (j:=3) ZO;have n4:=sq.aE pg.out (j:=4) ZO;simp only[Nat.add_zero]at n0;have f0:=sq.frozen (r*5);have f1:=sq.frozen (r*5+1);have f2:=sq.frozen (r*5+2);have f3:=sq.frozen (r*5+3);have f4:=sq.frozen (r*5+4);have J4:=H3.out.ob cX.below;obtain⟨m0,m1⟩:=J4.two;have oA:=J4.lt;obtain⟨PY,KH,cO,HJ⟩:=ZH4 sq J4 cX hJ;refine hK.out (λw'=>K_ w1 w') _ _ (λ_ h=>h) cX (λcA=>?_);clear hK K cu sq J4 cD cX cA hJ;repeat((first|refine ZSa ?_|refine ZSb ?_|refine ZSc ?_);simp only[Act.put,Q_])
 refine ZSe λK hK=>?_
 go_simp;refine hK.out _ _ ?_;clear hK K;refine ZSf ?_;obtain⟨W3,oc⟩:∃W3,W3=setAll w2 gt (r*5) (clkArr J).toList:=⟨_,rfl⟩;change Exit.then _ _ Exit.normal _ (setAll w2 gt (r*5) (clkArr J).toList);rw[←oc];have cM:Upd (λm=>t<=m/\m<=t+sh.length) own own w w2:=ZUb (da.out.trans cO.out da.out.le).below HF.out;have de:Upd (λm=>t<=m/\m<=t+sh.length) own own w W3:=by
  rw[oc];exact cM.setAll (λ_=>by rw[G5.out];omega) _ _
 have gO:PostAt own t W3 p most (Zav sh (told.set r J) 0) (told.set r J):=by
  rw[oc]
  exact PostAt.tell J G1.out G2.out KH.out G4.out G5.out h6 (H7.out.ob cO.out.below) PY.out (λi s hs=>by
   obtain⟨q,iN,j7⟩:=H9.out i s hs
   exact⟨q,iN,j7.upd (ZUb (T:=λ_=>False) cO.out.below Lf.out) (λh=>h)⟩) kT cM.fresh
 have Ie:p≠gt:=λe=>by
  have:=KH.out.cm PY.out ZJ;exact this e
 have NA:Blk W3 p 243 #[S_ (some ⟨gs,0,none⟩) sh.length ut,S_ (some ⟨gt,0,none⟩) sh.length sh.length]:=by
  rw[oc];exact(Zai Ie _ _ _).trans KH.out
 obtain⟨a0,a1⟩:=NA.two;have hltc3:=NA.lt;obtain⟨HU,HP⟩:=ZH2 de gO;clear cM de gO NA oc;obtain⟨TD,NU⟩:∃TD,TD=told.set r J:=⟨_,rfl⟩;rw[←NU]at HP;have UI:=ZH NU;clear NU c0 c1 d0 d1 d2 d3 d4 e0 e1 e2 e3 e4 n0 n1 n2 n3 n4 f0 f1 f2 f3 f4 m0 m1;go_wp2_with fail;go_loopw [32] (λi wr=>∃(k:Nat) (iW:Own),k<=sh.length/\i=I_ J_ k/\Hid (PostAt iW t wr p most (Zav sh TD k) TD)/\Hid (Upd (λm=>t<=m/\m<=t+sh.length) own iW w wr)) (λi _=>sh.length-(intOf i).toNat)
 case atStart=>exact⟨0,own,ZO,rfl,HP,HU⟩
 case round =>
  skip
  obtain⟨k,iW,i6,rfl,HP,HU⟩:=hrel;by_cases gh:k<sh.length
  ·obtain⟨x,hx⟩:∃x,sh[k]? = some x:=⟨_,ZX gh⟩;have kw:(Zav sh TD k)[k]? = some x:=by rw[ZgJ sh TD k k (ZL _)];exact hx
   have R4:=AS.out x (ZY hx);have HX:=ZH kw;clear hx kw;go_wp2_with fail;refine(Zm0 HP.out HU.out.fresh (by rw[Zcy];exact hN) k HX.out R4.1 R4.2).mono ?_;rintro _ w4 ⟨rfl,dX,sL,ei⟩;have pT:Zav sh TD (k+1)=(Zav sh TD k).set k (cutSh TD k x):=by
    rw[Zav,HX.out]
   rw[←pT]at sL;obtain⟨tV,gj⟩:=ZH2 sL (HU.out.trans (ei.mono (λm hm=>by show t<=m/\m<=t+sh.length;omega)));clear sL ei pT;go_wp2
   go_roundw
   case rel=>exact⟨k+1,dX,ZO,ZN,tV,gj⟩
   case measure=>simp[intOf];omega
  ·obtain rfl:k=sh.length:=ZO;go_wp2
   go_ret;rw[←HJ.out,←UI.out];exact⟨rfl,iW,HP.out,HU.out⟩
theorem Zhf{α : Type}{l:List α}{i:Nat}{a : α}(h:l[i]? = some a):l.set i a=l:=by
 obtain⟨hi,rfl⟩:=ZZ.1 h;exact List.set_getElem_self hi
def Zs(most r:Nat)(l:List Ev)(sh:List Sh)(told:List Clk):Nat×Nat×List Sh :=
 match sh[r]? with
 |none=>(0,23,sh)
 |some x =>
  if (Z0 most x.base x.kept l).1=0 then
   ((cutSh told r ⟨x.base,(Z0 most x.base x.kept l).2⟩).base+(cutSh told r ⟨x.base,(Z0 most x.base x.kept l).2⟩).kept.length,0,sh.set r (cutSh told r ⟨x.base,(Z0 most x.base x.kept l).2⟩))
  else(0,(Z0 most x.base x.kept l).1,sh)
theorem ZiZ{base:Nat}{kept l:List Ev}(hk:kept.length<=most):((Z0 most base kept l).1=0/\(Z0 most base kept l).2.length<=most)∨((Z0 most base kept l).1=21/\(Z0 most base kept l).2=kept):=by
 unfold Z0;simp only[];split
 ·exact .inl ⟨rfl,hk⟩
 ·split
  ·exact .inr ⟨rfl,rfl⟩
  ·refine .inl ⟨rfl,?_⟩;rw[ZI];omega
theorem ZdG(told:List Clk)(s:Nat)(x:Sh):(cutSh told s x).base+(cutSh told s x).kept.length=x.base+x.kept.length/\(cutSh told s x).kept.length<=x.kept.length:=by
 have h1:x.base<=Za5 x.base x.kept.length (ZaV told s):=Nat.le_max_left _ _;have h2:Za5 x.base x.kept.length (ZaV told s)<=x.base+x.kept.length:=Nat.max_le.2 ⟨Nat.le_add_right _ _,Nat.min_le_right _ _⟩;unfold cutSh;simp only[List.length_drop];omega
theorem Zlr{own:Own}{told:List Clk}(h:PostAt own t w p most sh told)(hf:Fresh own w)(hN:sh.length<=5)(r:Nat){x:Sh}(hx:sh[r]? = some x)(hk:x.kept.length<=most)(cP:x.base+most<=1000000)
  {a:Option Addr} {n cap:Nat} {l:List Ev} (hs:EvSl w a n cap l) (hn:n<=1000000) (n0:Nat) (hl:From1 n0 l) (gi:n0<=x.base+x.kept.length+1) (hr:∀e∈l,e.r=r) :
  Calls prog 89 #[P_ (some ⟨p,0,none⟩),I_ J_ r,S_ a n cap] w λrr w'=>rr=R_ (.tuple #[I_ J_ (Zs most r l sh told).1,I_ J_ (Zs most r l sh told).2.1])/\∃own',PostAt own' t w' p most (Zs most r l sh told).2.2 told/\Upd (· = t+1+r) own own' w w':=by
 have kT:r<sh.length:=(ZZ.1 hx).1;have gb:=ZH (hs.2.2.1);have iu:Zs most r l sh told=if (Z0 most x.base x.kept l).1=0 then
   ((cutSh told r ⟨x.base,(Z0 most x.base x.kept l).2⟩).base+(cutSh told r ⟨x.base,(Z0 most x.base x.kept l).2⟩).kept.length,0,sh.set r (cutSh told r ⟨x.base,(Z0 most x.base x.kept l).2⟩))
  else(0,(Z0 most x.base x.kept l).1,sh):=by
  unfold Zs;rw[hx]
 have nb:(0:Int)<=(r:Int):=ZO;have nE:(r:Int)<(sh.length:Int):=ZO;obtain⟨H,HF,HS,HL,HR,HX,iY,Dw⟩:=ZH8 h hf hs hl hr hx iu gi;clear h hf hs hl hr hx iu gi;go_enter func89,ntmps89;go_wp2_with fail;refine(Zjk H.out r).mono ?_;rintro _ w1 ⟨rfl,cz⟩;rw[show decide (r<sh.length)=true by simp[kT]];have HK:=ZH (Kept.start cz);clear cz;go_wp2_with fail;go_loopw [17] (λi wr=>∃q:Nat,q<=n/\i=I_ J_ q/\Hid (K_ w wr)) (λi _=>n-(intOf i).toNat)
 case atStart=>exact⟨0,ZO,rfl,HK⟩
 case round =>
  skip
  obtain⟨q,hq,rfl,HK⟩:=hrel;by_cases du:q<n
  ·obtain⟨e,he⟩:∃e,l[q]? = some e:=⟨_,ZX (by rw[gb.out];exact du)⟩;have zG:=HR.out e (ZY he);have hs:=HS.out.of_same (w':=wr) (λad _ hl=>HK.out.below.block _ hl) HK.out.le;obtain⟨bk,off,rfl,cW,c0,c1,c2,c3,c4,c5,c6,c7,c8,c9,dg,dh⟩:=hs.at_ he;have hx:=ZBn wr 89 (evArr e);have x0:=hx.cell 0;have dR:((e.r:Int)==(r:Int))=true:=by simp[zG]
   have cO:=ZH (HK.out.alloc (C_ (evArr e) 89));clear hs he zG hx;go_wp2
   go_roundw
   case rel=>exact⟨q+1,ZO,ZN,cO⟩
   case measure=>simp[intOf];omega
  ·obtain rfl:q=n:=ZO;have dt:=ZUb (T:=λ_=>False) HK.out.below HF.out;have dA:=ZH (ZUb (T:=(· = t+1+r)) HK.out.below HF.out);have hp:=H.out.upd dt (λi _ h=>h);have hs:=HS.out.of_same (w':=wr) (λad _ hl=>HK.out.below.block _ hl) HK.out.le;obtain⟨gs,ut,gt,cs,pq,h3,h7,h8,iN,j7,h6,dP⟩:=hp.one HX.out;obtain⟨c0,c1⟩:=h3.two;have cI:=h3.lt;have OL:=h7.lt;have sP:=h7.cell r;rw[iN]at sP;obtain⟨HP,fB,HQ,HO⟩:=ZH4 hp hs j7 dP;clear dt hp hs j7 dP h3 h7 h8 iN;go_wp2_with fail;refine(Zrs HQ.out dA.out.fresh ZO ZO ZO fB.out hn n0 HL.out Dw.out).mono ?_;rintro _ w2 ⟨rfl,cK,im,cM⟩;obtain⟨oE,cD,eQ⟩:=HO.out cK w2 ⟨x.base,(Z0 most x.base x.kept l).2⟩ cM im;obtain⟨PS,Rk⟩:∃PS,PS=Z0 most x.base x.kept l:=⟨_,rfl⟩;have zD:=ZiZ (most:=most) (base:=x.base) (kept:=x.kept) (l:=l) hk;have EZ:=iY.out;rw[←Rk]at zD oE EZ im ⊢;obtain⟨E0,dC,tf⟩:=ZH3 EZ (dA.out.trans cM) oE;clear cM im oE Rk cD eQ;rcases zD with ⟨hz,eE⟩|⟨hz,eE⟩
   ·rw[hz];go_wp2_with fail;have fG:(sh.set r ⟨x.base,PS.2⟩)[r]? = some ⟨x.base,PS.2⟩:=List.getElem?_set_self kT;refine(Zm0 tf.out dC.out.fresh (by rw[List.length_set];exact hN) r fG (by show PS.2.length<=1000000;omega) (by show x.base<=1000000;omega)).mono ?_;rintro _ w3 ⟨rfl,eL,gO,de⟩;rw[List.set_set]at gO;obtain⟨y,hy⟩:∃y,y=cutSh told r ⟨x.base,PS.2⟩:=⟨_,rfl⟩;have Aq:=ZdG told r ⟨x.base,PS.2⟩;have tW:=E0.out;rw[ZPp hz,←hy]at tW;rw[←hy]at gO Aq;simp only[]at Aq;have Aj:(sh.set r y)[r]? = some y:=List.getElem?_set_self kT;obtain⟨gs3,gcap3,gt3,cs3,pq3,h3,h7,h8,iN,j7,h6',dP⟩:=gO.one Aj;rw[List.length_set]at h3;obtain⟨d0,d1⟩:=h3.two;have oA:=h3.lt;have hlts3:=h7.lt;have O5:=h7.cell r;rw[iN]at O5;obtain⟨ic,UB,ew,Mr⟩:=ZH4 gO j7 (dC.out.trans de) tW;clear gO j7 de fG Aj dP h3 h7 h8 iN hy;go_wp2_with fail;refine(ZdI UB.out ZO ZO).mono ?_;rintro _ w4 ⟨rfl,cS⟩;have gy:=ZH cS;clear cS;go_wp2_with fail;go_ret2
    rw[Mr.out];exact⟨by first|rfl|(simp;omega),eL,ic.out.upd (ZUb (T:=λ_=>False) gy.out ew.out.fresh) (λi _ h=>h),ew.out.kept gy.out⟩
   ·rw[hz];go_wp2_with fail;go_ret2
    have tW:=E0.out;rw[ZPn ZO]at tW;have sL:=tf.out;rw[eE,Zhf HX.out]at sL;rw[tW,hz];exact⟨rfl,cK,sL,dC.out⟩
theorem Zqg(w:World):(zeroValue 5).run prog w=.ok (.int .u8 0) w:=by
 have h:=ZaJ;rcases hi:prog.info? 5 with _|i
 ·rw[hi]at h
  cases h
 ·rw[hi]at h;have hz:i.zero=some (.int .u8 0):=by simp at h;exact h.1
  simp[zeroValue,typeInfo,hi,hz]
theorem Ziz{P:Program}(w:World)(t e ty:TypeId)(ht:P.underlying t=some (.slice e))(a:Option Addr)(c:Nat):
  (Builtin.clear_ #[t] ty #[S_ a 0 c]).run P w=.ok (.tuple #[]) w:=by
 rcases a with _|a <;> simp[Builtin.clear_,run_underlying ht]
theorem ZrD{own:Own}{v:Value}{bytes:List Nat}{down cut:Bool}{keep:Int}(hm:own p=t)(hb:Blk w p 233 (diskArr v down cut keep))(hr:RowB own t w v bytes)(hf:Fresh own w):
  DiskAt own t (w.setCell ⟨p,0,none⟩ v) p ⟨bytes,down,cut,keep⟩/\Upd (· = t) own own w (w.setCell ⟨p,0,none⟩ v) :=
 ⟨⟨hm,v,hb.aj 0 v,Zdo hb hr 0 v⟩,(Upd.refl _ own w hf).setCell (p:=⟨p,0,none⟩) (λ_=>hm) _⟩
theorem Zk0{own:Own}{n:Nat}{d:Dk}(h:DiskAt own t w p d)(hf:Fresh own w)(hn:n<=d.bytes.length)(hd:d.bytes.length<=1000000000):
  Calls prog 84 #[P_ (some ⟨p,0,none⟩),I_ J_ n] w λr w'=>r=R_ (.tuple #[])/\DiskAt own t w' p (d.trim n)/\Upd (· = t) own own w w':=by
 obtain⟨bytes,down,cut,keep⟩:=d;obtain⟨hm,v,hb,hr⟩:=h;simp only at hb hr hd hn;obtain⟨a0,mm,rfl,gF⟩:=Bytes.ae hr.row;have ry:bytes.length<=mm:=gF.1;obtain⟨N,hN⟩:∃N,N=bytes.length:=⟨_,rfl⟩;have cT:=hr.row;have fg:=λty (w:World) (a:Option Addr) (c:Nat)=>Ziz (P:=prog) w 106 5 ty underlying106 a c
 rw[←hN]at hb cT hn hd ry;obtain⟨c0,c1,c2,c3⟩:=hb.four;have f0:=hb.frozen 0;have cI:=hb.lt;obtain⟨HB,HR,HF,HM,jH,HN⟩:=ZH6 hb hr hf hm cT hN;clear hb hr hf hm gF cT hN;have fp:(n:Int)<=(mm:Int):=ZO;have hnN:(n:Int)<=(N:Int):=ZO;have gi:(0:Int)<=(n:Int):=ZO;have lm:decide ((n:Int)<0)=false:=ZM;have eQ:decide ((N:Int)<(n:Int))=false:=ZP;rcases Nat.eq_or_lt_of_le hn with rfl|jt
 ·go_enter func84,ntmps84;go_wp2_with fail
  all_goals(try (have sx:mm=n:=by assumption);try subst sx)
  all_goals
   go_end0
   have ii:(Dk.trim ⟨bytes,down,cut,keep⟩ bytes.length)=⟨bytes,down,cut,keep⟩:=by simp[Dk.trim]
   rw[←HN.out]at ii;rw[ii];have dV:=HR.out;rw[←HN.out]at dV;have hs:=ZrD HM.out HB.out dV HF.out;exact⟨rfl,hs.1,hs.2⟩
 ·obtain⟨g,rfl⟩:∃g,a0=some ⟨g,0,none⟩:=by
   rcases jH.out.2 with ⟨_,h0⟩|⟨g,cap,cur,h0,_⟩
   ·omega
   ·injection h0 with h0
    exact⟨g,h0⟩
  have ie:own g=t:=HR.out.own g rfl;have DY:g≠p:=λe=>Zr HR.out.row HB.out ZJ (by rw[e];rfl)
  have ko:(cells bytes).length=N:=by rw[Zen,HN.out]
  have kE:=ZkE (i:=n) (j:=N) (zs:=(Builtin.zeroCells #[.int .u8 0] (N-n)).toList) jH.out hn (ZL _) (by simp[size_zeroCells]);have e0:(cells bytes).drop (N*1)=[]:=List.drop_eq_nil_of_le ZO;have e1:n+(N-N)=n:=ZO;have e2:(cells bytes).take (n*1)++[]=cells (bytes.take n):=by simp[cells]
  rw[e0,e1,e2,Nat.mul_one]at kE;obtain⟨ho,jo⟩:=kE;simp only[setAll]at ho jo;have eV:∀ty,(Builtin.clear_ #[106] ty #[S_ (some ⟨g,n,none⟩) (N-n) (mm-n)]).run prog w=.ok (.tuple #[]) (setAll w g n (Builtin.zeroCells #[.int .u8 0] (N-n)).toList):=by
   intro ty;obtain⟨cur,hh,gC⟩:∃cur,Blk w g 5 cur/\cur.size=mm*1:=by
    rcases jH.out.2 with ⟨_,h0⟩|⟨g',cap,cur,h0,_,hh,_,_,gC,_⟩
    ·omega
    ·injection h0 with h0 _ h2
     injection h0 with h0
     injection h0 with h0
     subst h0 h2;exact⟨cur,hh,gC⟩
   refine Zfc _ 106 5 ty (.int .u8 0) underlying106 Zqg (by intro v hv;simp[Value.cells]at hv;subst hv;rfl) g _ (N-n) _ ZO (λk hk=>?_) (λk _=>hh.frozen _);have i6:k<(N-n)*1:=hk;rw[hh.cell,Array.getElem?_eq_getElem (by rw[gC];omega)];rfl
  have fQ:=HB.out.grown jo (λe=>DY (by injection e with e;exact e.symm));generalize setAll w g n (Builtin.zeroCells #[.int .u8 0] (N-n)).toList=W3 at *;obtain⟨d0,d1,d2,d3⟩:=fQ.four;have f03:=fQ.frozen 0;have oA:=fQ.lt;obtain⟨HO,HG,s9,Qc,wR⟩:=ZH5 ho jo ie DY fQ;clear ho jo ie DY e0 e1 e2 ko fQ;go_enter func84,ntmps84;go_wp2_with fail;go_end0
  have hf:=wR.out.aj 0 (S_ (some ⟨g,0,none⟩) n mm);have cW:(bytes.take n).length=n:=by rw[ZV,←HN.out,Nat.min_eq_left hn]
  have cM:Upd (· = t) own own w W3:=⟨HG.out.os,HG.out.tape,HG.out.output,HG.out.size,λ_ _=>rfl,λb hb hn=>HG.out.block b hb (λe=>hn (by injection e with e;rw[e];exact s9.out)),λb hb=>HF.out b (ZT HG.out.size hb)⟩;refine⟨rfl,⟨HM.out,_,hf,?_,λg' hg=>?_⟩,cM.setCell (p:=⟨p,0,none⟩) (λ_=>HM.out) _⟩
  ·show World.ownsRow _ 0 5 1 _ (bytes.take n).length (cells (bytes.take n))
   rw[cW];exact Zi HO.out (λg' hg _=>Below.heap_setCell _ _ _ _ (λhe=>Zr HO.out wR.out ZJ (by rw[hg,he])))
  ·injection hg with hg
   subst hg;exact s9.out
end Go.Proofs.YtjkfognelhiepaaGreat
