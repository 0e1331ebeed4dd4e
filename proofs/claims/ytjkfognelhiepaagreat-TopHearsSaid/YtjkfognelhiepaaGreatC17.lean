import Derived.Test.YtjkfognelhiepaaGreatC16
namespace Go.Proofs.YtjkfognelhiepaaGreat
open Go.RowKit _root_.Go.Proofs.Tryz
set_option maxRecDepth 100000
set_option maxHeartbeats 8000000
section
open Go.RowKit Go.MapKept
section
variable {β γ : Type}
def atK(T:List (ByteArray × β))(k:ByteArray):Option Nat:=T.findIdx? λ p=>decide (p.1=k)
def ZaH(T:List (ByteArray × β))(k:ByteArray):Option β := (T.find? λ p=>decide (p.1=k)).map (·.2)
def Zei(T:List (ByteArray × β))(k:ByteArray)(x : β):List (ByteArray × β):=match atK T k with | some i=>T.set i (k,x) | none=>T++[(k,x)]
def Zeb(T:List (ByteArray × β))(k:ByteArray):List (ByteArray × β):=match atK T k with | some i=>T.eraseIdx i | none=>T
theorem ZmM(f : β -> γ)(T:List (ByteArray × β))(k:ByteArray):atK (T.map λ p=>(p.1,f p.2)) k=atK T k:=by
 unfold atK;rw[List.findIdx?_map];rfl
theorem Zga(f : β -> γ)(T:List (ByteArray × β))(k:ByteArray):ZaH (T.map λ p=>(p.1,f p.2)) k=(ZaH T k).map f:=by
 unfold ZaH;rw[List.find?_map,Option.map_map,Option.map_map];rfl
theorem ZlC(f : β -> γ)(T:List (ByteArray × β))(k:ByteArray)(x : β):Zei (T.map λ p=>(p.1,f p.2)) k (f x)=(Zei T k x).map λ p=>(p.1,f p.2):=by
 unfold Zei;rw[ZmM]
 cases atK T k with
 | none=>simp
 | some i=>simp[List.map_set]
theorem Zk7(f : β -> γ)(T:List (ByteArray × β))(k:ByteArray):Zeb (T.map λ p=>(p.1,f p.2)) k=(Zeb T k).map λ p=>(p.1,f p.2):=by
 unfold Zeb;rw[ZmM]
 cases atK T k with
 | none=>rfl
 | some i=>simp[ZcW]
theorem ZoC(T:List (ByteArray × Value))(k:ByteArray):Zdd T k=atK T k:=by
 unfold Zdd atK;congr
theorem Zr5(T:List (ByteArray × Value))(k:ByteArray)(v:Value):ZeR T k v=Zei T k v:=by
 unfold ZeR Zei;rw[ZoC]
 cases atK T k <;> rfl
theorem ZrG(T:List (ByteArray × Value))(k:ByteArray):ZkN T k=Zeb T k:=by
 unfold ZkN Zeb;rw[ZoC]
 cases atK T k <;> rfl
theorem ZrP(T:List (ByteArray × Value))(k:ByteArray):ZeK T k=ZaH T k:=by
 unfold ZeK ZaH;congr
theorem ZkT{T:List (ByteArray × β)}{k:ByteArray}{i:Nat}(h:atK T k=some i):∃ x,T[i]? = some (k,x)/\ZaH T k=some x/\i<T.length:=by
 unfold atK at h;obtain⟨hi,h1,h2⟩:=List.findIdx?_eq_some_iff_getElem.1 h;have hk:T[i].1=k:=by simpa using h1
 refine⟨T[i].2,by rw[ZX hi,←hk],?_,hi⟩;have hf:T.find? (λ p=>decide (p.1=k))=some T[i]:=by
  rw[List.find?_eq_some_iff_getElem];exact⟨h1,i,hi,rfl,λ j hj=>by simpa using h2 j hj⟩
 unfold ZaH;rw[hf];rfl
theorem Zp3{T:List (ByteArray × β)}{k:ByteArray}(h:atK T k=none):ZaH T k=none:=by
 unfold atK at h;unfold ZaH;rw[find_none_of_idx h];rfl;where
 find_none_of_idx {T:List (ByteArray × β)} {p:ByteArray × β -> Bool} (h:T.findIdx? p=none):T.find? p=none:=by
  rw[List.findIdx?_eq_none_iff] at h;rw[List.find?_eq_none];intro x hx;simp[h x hx]
end
theorem Zjo:Enc .string Value.string:=⟨λ _=>trivial,λ a b h=>by injection h⟩
abbrev Kept3:=List (ByteArray × (List Ev × Value))
def keptVals(T:Kept3):List (ByteArray × Value):=T.map λ p=>(p.1,p.2.2)
def keptEvs(T:Kept3):List (ByteArray × List Ev):=T.map λ p=>(p.1,p.2.1)
structure KeptRows(own:Own)(t:Nat)(w:World)(T:Kept3):Prop where
 row:∀ p∈T,RowAt own t w p.2.2 p.2.1
 apart:∀ (i j:Nat) (p q:ByteArray × (List Ev × Value)),T[i]? = some p->T[j]? = some q->i≠j->Apart p.2.2 q.2.2
structure LiveAt(own:Own)(t:Nat)(w:World)(p:Nat)(K:List (ByteArray × List Ev)):Prop where
 mine:own p=t
 ex:∃ (d:Int) (m:Option Nat) (size:Int) (T:Kept3),Blk w p 213 (liveArr d 0 m size)/\keptEvs T=K/\KeptRows own t w T/\((d=0/\m=none/\T=[])∨(d=1/\∃ mb,m=some mb/\own mb=t/\MapKV Value.string w mb (keptVals T)))
section
variable {own own':Own}{t p:Nat}{w w':World}{K:List (ByteArray × List Ev)}{T:Kept3}{S:Nat->Prop}
theorem KeptRows.upd(h:KeptRows own t w T)(hu:Upd S own own' w w')(ht:¬ S t):KeptRows own' t w' T:=⟨λ x hx=>(h.row x hx).upd hu ht,h.apart⟩
theorem LiveAt.upd(h:LiveAt own t w p K)(hu:Upd S own own' w w')(ht:¬ S t):LiveAt own' t w' p K:=by
 obtain⟨h1,d,m,size,T,h2,h3,h4,h5⟩:=h;refine⟨by rw[hu.old p h2.lt];exact h1,d,m,size,T,h2.upd hu (by rw[h1];exact ht),h3,h4.upd hu ht,?_⟩;rcases h5 with h5 | ⟨hd,mb,h6,h7,h8⟩
 ·exact .inl h5
 ·exact .inr ⟨hd,mb,h6,by rw[hu.old mb h8.lt];exact h7,h8.of_same (hu.same mb h8.lt (by rw[h7];exact ht))⟩
end
section
variable {own own':Own}{t:Nat}{w w':World}{T:Kept3}
theorem KeptRows.put{k:ByteArray}{Ii:List Ev}{v':Value}(h:KeptRows own t w T)(cB:RowAt own' t w' v' Ii)(iC:∀ (j:Nat) (p:ByteArray × (List Ev × Value)),T[j]? = some p->atK T k≠some j->RowAt own' t w' p.2.2 p.2.1/\Apart p.2.2 v'):KeptRows own' t w' (Zei T k (Ii,v')):=by
 unfold Zei
 cases iL:atK T k with
 | none =>
  refine⟨λ p hp=>?_,λ i j p q hi hj oD=>?_⟩
  ·rcases List.mem_append.1 hp with hp | hp
   ·obtain⟨j,hj⟩:=List.mem_iff_getElem?.1 hp;exact(iC j p hj (by simp[iL])).1
   ·simp at hp;subst hp;exact cB
  ·rw[List.getElem?_append] at hi hj;split at hi <;> split at hj
   ·exact h.apart i j p q hi hj oD
   ·have:q=(k,(Ii,v')):=by rw[List.getElem?_singleton] at hj;split at hj <;> simp_all
    subst this;exact(iC i p hi (by simp[iL])).2
   ·have:p=(k,(Ii,v')):=by rw[List.getElem?_singleton] at hi;split at hi <;> simp_all
    subst this;exact(iC j q hj (by simp[iL])).2.symm
   ·rw[List.getElem?_singleton] at hi hj;split at hi <;> split at hj
    ·omega
    all_goals simp_all
 | some i0 =>
  obtain⟨x,hx,_,ce⟩:=ZkT iL;refine⟨λ p hp=>?_,λ i j p q hi hj oD=>?_⟩
  ·obtain⟨j,hj⟩:=List.mem_iff_getElem?.1 hp;rw[List.getElem?_set] at hj;split at hj
   ·injection hj with hj
    subst hj;exact cB
   ·rename_i dz;exact(iC j p hj (by rw[iL];intro e;injection e with e;exact dz e)).1
  ·rw[List.getElem?_set] at hi hj;split at hi
   ·rename_i e1;split at hj
    ·rename_i e2;exact absurd (e1.symm.trans e2) oD
    ·rename_i e2;injection hi with hi;subst hi;exact(iC j q hj (by rw[iL];intro e;injection e with e;exact e2 e)).2.symm
   ·rename_i e1;split at hj
    ·injection hj with hj
     subst hj;exact(iC i p hi (by rw[iL];intro e;injection e with e;exact e1 e)).2
    ·exact h.apart i j p q hi hj oD
theorem KeptRows.del{k:ByteArray}(h:KeptRows own t w T)(iC:∀ (j:Nat) (p:ByteArray × (List Ev × Value)),T[j]? = some p->atK T k≠some j->RowAt own' t w' p.2.2 p.2.1):KeptRows own' t w' (Zeb T k):=by
 unfold Zeb
 cases iL:atK T k with
 | none=>exact⟨λ p hp=>by
   obtain⟨j,hj⟩:=List.mem_iff_getElem?.1 hp
   exact iC j p hj (by simp[iL]),h.apart⟩
 | some i0 =>
  have my:∀ (j:Nat) (p:ByteArray × (List Ev × Value)),(T.eraseIdx i0)[j]? = some p->∃ j',T[j']? = some p/\j'≠i0/\j'=(if j<i0 then j else j+1):=by
   intro j p hj;rw[List.getElem?_eraseIdx] at hj;split at hj
   ·rename_i ce;exact⟨j,hj,ZO,by rw[if_pos ce]⟩
   ·rename_i ce;exact⟨j+1,hj,ZO,by rw[if_neg ce]⟩
  refine⟨λ p hp=>?_,λ i j p q hi hj oD=>?_⟩
  ·obtain⟨j,hj⟩:=List.mem_iff_getElem?.1 hp;obtain⟨j',h1,h2,_⟩:=my j p hj;exact iC j' p h1 (by rw[iL];intro e;injection e with e;exact h2 e.symm)
  ·obtain⟨i',h1,_,h3⟩:=my i p hi;obtain⟨j',g1,_,g3⟩:=my j q hj;refine h.apart i' j' p q h1 g1 ?_;rw[h3,g3];split <;> split <;> omega
end
def ZsI(b:Nat)(m:Option Nat)(size:Int)(L:List (ByteArray × Value))(w:World)(r:Ending)(w':World):Prop :=
 r = .returned (.tuple #[])/\∃ mb,Blk w' b 213 (liveArr 1 0 (some mb) size)/\MapKV Value.string w' mb L/\(m=some mb∨(L=[]/\w.heap.size<=mb))/\w.grownBy w' (some b)
theorem ZqD{w:World}{b pl:Nat}(hp:w.cell? ⟨pl,0,none⟩=some (.pointer (some ⟨b,0,none⟩))){d:Int}{m:Option Nat}{size:Int}(hb:Blk w b 213 (liveArr d 0 m size)){L:List (ByteArray × Value)}
  (h:(d=0/\m=none/\L=[])∨(d=1/\∃ mb,m=some mb/\MapKV Value.string w mb L)) :
  Calls prog 162 #[.pointer (some ⟨b,0,none⟩),.func (.func 163) #[] #[.pointer (some ⟨pl,0,none⟩)]] w (ZsI b m size L w):=by
 rcases h with ⟨rfl,rfl,rfl⟩|⟨rfl,mb,rfl,hm⟩
 ·refine(ZnY hp hb).mono ?_;rintro _ w' ⟨rfl,mb,h1,h2,h3,h4⟩;exact⟨rfl,mb,h1,⟨#[],0,h2,stamped_empty 0,rfl⟩,.inr ⟨rfl,h3⟩,h4⟩
 ·refine(ZnX hb _).mono ?_;rintro _ w' ⟨rfl,rfl⟩;exact⟨rfl,mb,hb,hm,.inl rfl,⟨rfl,rfl,rfl,ZL _,λ _ _ _=>rfl⟩⟩
def applyN(K:List (ByteArray × List Ev))(e:Ev):List (ByteArray × List Ev) :=
 if (ZaP ((ZaH K e.key).getD []) e).length=0 then Zeb K e.key else Zei K e.key (ZaP ((ZaH K e.key).getD []) e)
end
section
open Go.RowKit Go.MapKept
theorem Zsf(w:World):(zeroValue 128).run prog w = .ok (.slice none 0 0) w:=Tryz.zeroValue128 w
theorem Zj9{w:World}{mb:Nat}{L:List (ByteArray × Value)}(h:MapKV Value.string w mb L)(k:ByteArray):(Instr.lookup 197 (.map (some mb)) (.string k) false).run prog w = .ok ((ZaH L k).getD (.slice none 0 0)) w:=by
 rw[←ZrP];exact(ZgE Zjo underlying197 underlying9 _ Zsf h k).2
theorem Zi3{w:World}{B n sz mb:Nat}{e:TypeId}{v:Value}{xs:List Value}{L:List (ByteArray × Value)}(h:w.ownsRow B e sz v n xs)(hm:MapKV Value.string w mb L):∀ g,v.ownBlock=some g->g≠mb:=by
 intro g hg he;obtain⟨es,clk,iP,_⟩:=hm;rcases h.2 with ⟨h0,_⟩|⟨g1,c1,DW,h1,_,bS,_⟩
 ·rw[h0] at hg;cases hg
 ·rw[h1] at hg;injection hg with hg;have kf:g1=g:=hg;rw[kf,he] at bS;rw[iP] at bS
  cases bS
theorem ZiQ{own:Own}{t p:Nat}{w:World}{K:List (ByteArray × List Ev)}(h:LiveAt own t w p K)(hf:Fresh own w)(e:Ev)(he:e.Ok)(hk:∀ l,ZaH K e.key=some l->l.length<=100000/\∀ x∈l,x.r<5):
  Calls prog 118 #[.pointer (some ⟨p,0,none⟩),Zaa e] w λ r w'=>r = .returned (.int .i64 0)/\∃ own',LiveAt own' t w' p (applyN K e)/\Upd (· = t) own own' w w':=by
 obtain⟨fD,d,m,size,T,hb,hT,kr,hd⟩:=h;have cD:=Zbu w (.cells #[.pointer (some ⟨p,0,none⟩)] 129) (.cells (evArr e) 89);obtain⟨HP,HE,cH⟩:=ZH3 ((ZBn w 129 #[.pointer (some ⟨p,0,none⟩)]).alloc (.cells (evArr e) 89)) (Z6 w (.cells #[.pointer (some ⟨p,0,none⟩)] 129) 89 (evArr e)) (hb.ob cD);have Mc:=hb.lt;obtain⟨sG,HB,di,HR,HD,HM,HF,HT,mU⟩:=ZH9 (λ W=>ZeA e W he) hb cD kr hd fD hf hT hk;clear hb cD kr hd fD hf hT hk;go_enter func118,ntmps118;go_wp2_with fail;refine(sG.out _).mono ?_;rintro _ w1 ⟨rfl,bS⟩;have Ir:=HP.out.ob bS;have QU:=ZH (HE.out.ob bS);have cW:=cH.out.ob bS;have fk:=di.out.trans (bS.mono di.out.size);have q0:=Ir.cell 0;have LP:=Ir.lt;simp only[ZD,ZE] at q0
 have Bc:=ZqD q0 cW (L:=keptVals T) (by
  rcases HD.out with ⟨h1,h2,h3⟩|⟨h1,mb,h2,_,h3⟩
  ·exact .inl ⟨h1,h2,by rw[h3];rfl⟩
  ·exact .inr ⟨h1,mb,h2,h3.below fk⟩)
 obtain⟨JX,j7,cL,uY⟩:=ZH4 Bc Ir cW fk;clear Ir cW fk Bc bS;have SP:∀ (fn:Fn) (first cap:Array Value) (w:World),(Instr.makeFunc fn first cap).run prog w = .ok (.func fn first cap) w:=λ _ _ _ _=>rfl
 go_wp2_with fail;refine JX.out.mono ?_;rintro _ w2 ⟨rfl,mb,dd,KY,lO,eN⟩;have rF:w.heap.size≠p:=ZO;have OA:Blk w2 w.heap.size 129 #[.pointer (some ⟨p,0,none⟩)]:=j7.out.grown eN (by intro h;injection h with h;omega);have xX:Blk w2 (w.heap.size+1) 89 (evArr e):=QU.out.grown eN (by intro h;injection h with h;omega);have cm:∃ cg,Upd (· = t) own cg w w2/\cg mb=t/\KeptRows cg t w2 T/\cg p=t:=by
  have co:Upd (· = t) own own w w2:=(ZUb uY.out HF.out).aG eN (λ _=>HM.out);have dC:KeptRows own t w2 T:=⟨λ x hx=>⟨Zh (Ze (HR.out.row x hx).row uY.out) (λ g hg hl=>eN.block g hl (λ he=>Zo (Ze (HR.out.row x hx).row uY.out) cL.out ZJ (by rw[hg,he]))),(HR.out.row x hx).own⟩,HR.out.apart⟩;rcases lO with lO | ⟨lO,SO⟩
  ·rcases HD.out with ⟨_,h2,_⟩|⟨_,mb',h2,h3,_⟩
   ·rw[h2] at lO;cases lO
   ·rw[h2] at lO;injection lO with lO;subst lO;exact⟨own,co,h3,dC,HM.out⟩
  ·have Iv:T=[]:=by
    have:=congrArg List.length lO;simp only[keptVals,List.length_map,List.length_nil] at this;exact List.length_eq_zero_iff.1 this
   have Ba:w.heap.size<=mb:=ZT uY.out.size SO;refine⟨own.at_ mb t,co.am Ba KY.lt t,by simp[Own.at_],by rw[Iv];exact⟨λ p hp=>by simp at hp,λ i j p q hi=>by simp at hi⟩,?_⟩;unfold Own.at_;rw[if_neg ZO];exact HM.out
 obtain⟨cg,cm,jh,dC,o7⟩:=cm;obtain⟨uW,vf,q7,mS,dc,Rp,eU,xI⟩:=ZH8 dd KY OA xX cm jh dC o7;clear dd KY OA xX cm jh dC lO eN o7 q0 LP;go_wp2_with fail;refine ZSi [(0,0),(1,0),(2,3),(3,0),(4,3),(5,0),(6,0),(7,3)] λ bR=>?_
 repeat((first | refine ZSa ?_ | refine ZSb ?_ | (refine Zf rfl (by rfl) (λ w' ci=>by(obtain⟨k0,k1,k2,k3,k4⟩:=Zct (uW.out.ob ci.below));(have q0:=(q7.out.ob ci.below).cell 0);(simp only[ZD,ZE] at q0);(obtain⟨x0,x1,x2,x3,x4,x5,x6,x7,x8,x9,eE,eG⟩:=(mS.out.ob ci.below).ae);(have kV:=Zj9 (vf.out.below ci.below) e.key);go_simp;with_reducible rfl) ?_));simp only[Act.put,ZA,ZB,ZC])
 refine ZSf ?_;obtain⟨vb,uO⟩:∃ vb,vb=(ZaH (keptVals T) e.key).getD (.slice none 0 0):=⟨_,rfl⟩;obtain⟨lb,sd⟩:∃ lb,lb=(ZaH K e.key).getD []:=⟨_,rfl⟩;rw[←uO];have tG:ZaH (keptVals T) e.key=(ZaH T e.key).map (·.2):=Zga (λ x:List Ev × Value=>x.2) T e.key;have ry:ZaH K e.key=(ZaH T e.key).map (·.1):=by rw[←HT.out];exact Zga (λ x:List Ev × Value=>x.1) T e.key
 have wk:w2.ownsRow 0 89 12 vb lb.length (evCells lb)/\(∀ g,vb.ownBlock=some g->cg g=t/\g<w.heap.size)/\lb.length<=100000/\(∀ x∈lb,x.r<5)/\(∀ (j:Nat) (q:ByteArray × (List Ev × Value)),T[j]? = some q->atK T e.key≠some j->Apart q.2.2 vb):=by
  cases iL:atK T e.key with
  | none =>
   have hn:=Zp3 iL;rw[hn] at tG ry;have e1:vb = .slice none 0 0:=by rw[uO,tG];rfl
   have e2:lb=[]:=by rw[sd,ry];rfl
   rw[e1,e2];exact⟨⟨rfl,.inl ⟨rfl,rfl⟩⟩,(λ g h=>by cases h),ZM,(λ x h=>by simp at h),λ j q _ _=>(ZgO _ _ _).symm⟩
  | some i0 =>
   obtain⟨x,hx,mz,ce⟩:=ZkT iL;rw[mz] at tG ry;have e1:vb=x.2:=by rw[uO,tG];rfl
   have e2:lb=x.1:=by rw[sd,ry];rfl
   have hk:=mU.out x.1 ry;have hr:=eU.out.row _ (ZY hx);rw[e1,e2];exact⟨hr.row,(λ g hg=>⟨hr.own g hg,(Zb (HR.out.row _ (ZY hx)).row hg).2⟩),hk.1,hk.2,λ j q hj dz=>eU.out.apart j i0 q _ hj hx (λ h=>dz (by rw[h]))⟩
 obtain⟨cB,cT,hlen,eC,m9⟩:=wk;obtain⟨BU,vL,rfl,_⟩:=EvSl.ab cB;have Ey:applyN K e=if (ZaP lb e).length=0 then Zeb K e.key else Zei K e.key (ZaP lb e):=by unfold applyN;rw[←sd]
 obtain⟨RI,i8,vo,mP,M9⟩:=ZH5 (Zri e (Ze cB ((ZW w2.heap.size w2).drew)) hlen eC) cB cT m9 Ey;clear tG ry uO sd cB cT eC m9 Ey bR;obtain⟨x0,x1,x2,x3,x4,x5,x6,x7,x8,x9,eE,eG⟩:=mS.out.drew.ae;have kJ:=mS.out.drew.lt;go_wp2_with fail;refine RI.out.mono ?_;clear x0 x1 x2 x3 x4 x5 x6 x7 x8 x9 eE eG kJ;rintro _ w4 ⟨v4,rfl,cd,dn,jc⟩;have lD:w2.grownBy w4 (Value.slice BU lb.length vL).ownBlock:=(ZeL w2 _).trans dn;obtain⟨a4,iB,rfl,_⟩:=EvSl.ab cd;have i3:=ZcP uW.out i8.out ZJ lD;have xZ:=ZcP q7.out i8.out ZJ lD
 have ol:Blk w4 (w.heap.size+1) 89 (evArr e):=mS.out.grown lD (λ h=>by
  have h1:=(vo.out _ h.symm).2
  omega)
 have Ot:MapKV Value.string w4 mb (keptVals T):=vf.out.of_same (lD.block mb vf.out.lt (λ h=>by
  obtain⟨es,clk,iP,_⟩:=vf.out;rcases i8.out.2 with ⟨h0,_⟩|⟨g1,c1,DW,h1,_,bS,_⟩
  ·rw[h0] at h;cases h
  ·rw[h1] at h;injection h with h;rw[h] at iP;rw[iP] at bS
   cases bS))
 have dS:∃ dG,Upd (· = t) own dG w w4/\(∀ b,b<w2.heap.size->dG b=cg b)/\(∀ g,(Value.slice a4 (ZaP lb e).length iB).ownBlock=some g->dG g=t):=by
  have iU:w2.grownBy w4 (Value.slice BU lb.length vL).ownBlock:=lD;rcases jc with iL | iL
  ·refine⟨cg,?_,λ _ _=>rfl,λ g hg=>(vo.out g (iL▸hg)).1⟩;rcases uJ:(Value.slice BU lb.length vL).ownBlock with _ | g
   ·rw[uJ] at iU;exact dc.out.kept ⟨iU.os,iU.tape,iU.output,iU.size,λ k hk=>iU.block k hk ZM⟩
   ·rw[uJ] at iU;refine dc.out.aG iU (λ hl=>?_);rw[←dc.out.old g hl];exact(vo.out g uJ).1
  ·refine⟨cg.put (.slice a4 (ZaP lb e).length iB) t,?_,λ b hb=>?_,λ g hg=>?_⟩
   ·have hu:Upd (· = t) own cg w w4:=by
     rcases uJ:(Value.slice BU lb.length vL).ownBlock with _ | g
     ·rw[uJ] at iU;exact dc.out.kept ⟨iU.os,iU.tape,iU.output,iU.size,λ k hk=>iU.block k hk ZM⟩
     ·rw[uJ] at iU;refine dc.out.aG iU (λ hl=>?_);rw[←dc.out.old g hl];exact(vo.out g uJ).1
    exact hu.bt (λ g hg=>⟨ZT dc.out.size (iL g hg),(Zb cd hg).2⟩) t
   ·unfold Own.put;rw[if_neg (λ h=>by have:w2.heap.size<=b:=iL b h;omega)]
   ·unfold Own.put;rw[if_pos hg]
 obtain⟨dG,dS,gL,sf⟩:=dS;have yG:∀ (j:Nat) (q:ByteArray × (List Ev × Value)),T[j]? = some q->atK T e.key≠some j->RowAt dG t w4 q.2.2 q.2.1/\Apart q.2.2 (.slice a4 (ZaP lb e).length iB):=by
  intro j q hj dz;have IK:=eU.out.row q (ZY hj);have Ez:=mP.out j q hj dz;refine⟨⟨ZaX IK.row lD Ez,λ g hg=>by rw[gL g (Zb IK.row hg).2];exact IK.own g hg⟩,λ g hg kf=>?_⟩;rcases jc with iL | iL
  ·exact Ez g hg (iL▸kf)
  ·have h1:w2.heap.size<=g:=iL g kf;have:=(Zb IK.row hg).2;omega
 have j8:Hid (RowAt dG t w4 (.slice a4 (ZaP lb e).length iB) (ZaP lb e)):=ZH (⟨cd,sf⟩);have FH:p<w2.heap.size:=uW.out.lt;have Fp:=vf.out.lt;obtain⟨Dj,vk⟩:=ZH2 ((gL p FH).trans xI.out) ((gL mb Fp).trans Rp.out)
 have J0:Hid (p≠mb):=ZH (λ h=>by
  obtain⟨es,clk,iP,_⟩:=vf.out;have:=uW.out;unfold Blk at this;rw[h,iP] at this
  cases this)
 obtain⟨fK,sL,sx,Rg,fF,sJ⟩:=ZH6 i3 xZ ol Ot dS yG;have q0:=xZ.cell 0;simp only[ZD,ZE] at q0;have LP:=xZ.lt;clear i3 xZ ol Ot dS yG gL sf cd dn lD jc FH Fp;go_wp2_with fail;refine(Zry fK.out _).mono ?_;rintro _ w5 ⟨⟨v5,rfl⟩,yY⟩;have oX:Blk w5 p 213 (liveArr 1 0 (some mb) (wrap64 (size+wrap64 (((ZaP lb e).length:Int)-(lb.length:Int))))):=by
  rw[yY];first | exact fK.out.ai 4 _ | (simp only[IntKind.wrap_i64];exact fK.out.ai 4 _)
 have Is:Blk w5 w.heap.size 129 #[.pointer (some ⟨p,0,none⟩)]:=by rw[yY];exact sL.out.far rF _
 have pF:Blk w5 (w.heap.size+1) 89 (evArr e):=by rw[yY];exact sx.out.far (p:=⟨p,4,none⟩) (by show w.heap.size+1≠p;omega) _
 have Ou:MapKV Value.string w5 mb (keptVals T):=by rw[yY];exact Rg.out.of_same (Below.heap_setCell _ _ _ _ (λ h=>J0.out h.symm))
 have oO:∀ v es,RowAt dG t w4 v es->RowAt dG t w5 v es:=λ v es hr=>⟨by rw[yY];exact Zcm hr.row fK.out ZJ,hr.own⟩
 have gS:Upd (· = t) own dG w w5:=by rw[yY];exact fF.out.setCell (p:=⟨p,4,none⟩) (λ _=>HM.out) _
 obtain⟨kC,NK,BM,Hs,xN,jn⟩:=ZH6 oX Is pF Ou oO gS;clear oX Is pF Ou oO gS yY q0 LP;by_cases h0:(ZaP lb e).length=0
 ·have hz:(((ZaP lb e).length:Int)==0)=true:=by simp[h0]
  have cK:(ZaP lb e).isEmpty=true:=by rw[List.isEmpty_iff,←List.length_eq_zero_iff];exact h0
  have HC:=ZH h0;clear h0;go_wp2_with fail;refine ZSi [(0,0),(1,0),(2,3),(3,0),(4,3),(5,0),(6,2)] λ bR=>?_
  repeat((first | refine ZSa ?_ | refine ZSb ?_ | (refine Zf rfl (by rfl) (λ w' ci=>by(obtain⟨k0,k1,k2,k3,k4⟩:=Zct (kC.out.ob ci.below));(have q0:=(NK.out.ob ci.below).cell 0);(simp only[ZD,ZE] at q0);(obtain⟨x0,x1,x2,x3,x4,x5,x6,x7,x8,x9,eE,eG⟩:=(BM.out.ob ci.below).ae);go_simp;with_reducible rfl) ?_));simp only[Act.put,ZA,ZB,ZC])
  obtain⟨w6,em,wM,mK⟩:=ZkI Zjo underlying197 underlying9 (Hs.out.below ((ZW w5.heap.size w5).drew)) e.key 0;refine ZSe λ K hK=>?_
  go_simp;refine hK.out _ _ ?_;clear hK K;refine ZSf ?_;have qv:w5.grownBy w6 (some mb):=(ZeL w5 _).trans mK;obtain⟨JG,ur⟩:=ZH2 wM qv;clear wM em mK qv bR;go_wp2
  go_ret;have qy:∀ v es,RowAt dG t w5 v es->RowAt dG t w6 v es:=λ v es hr=>⟨Zh hr.row (λ g hg hl=>ur.out.block g hl (λ h=>by injection h with h;exact Zi3 hr.row Hs.out g hg h)),hr.own⟩
  refine⟨rfl,dG,⟨Dj.out,1,some mb,_,_,kC.out.grown ur.out (by intro h;injection h with h;exact J0.out h),?_,eU.out.del (λ j q hj dz=>qy _ _ (xN.out _ _ (sJ.out j q hj dz).1)),.inr ⟨rfl,mb,rfl,vk.out,?_⟩⟩,jn.out.aG ur.out (λ hl=>?_)⟩
  ·rw[M9.out,if_pos HC.out,←HT.out];exact(Zk7 (λ x:List Ev × Value=>x.1) T e.key).symm
  ·have:=JG.out;rw[ZrG] at this;unfold keptVals at this ⊢;rw[Zk7 (λ x:List Ev × Value=>x.2)] at this;exact this
  ·rw[←jn.out.old mb hl];exact vk.out
 ·have hz:(((ZaP lb e).length:Int)==0)=false:=by rw[beq_eq_false_iff_ne];omega
  have HC:=ZH h0;clear h0;go_wp2_with fail;refine ZSi [(0,0),(1,0),(2,3),(3,0),(4,3),(5,0),(6,3),(7,2)] λ bR=>?_
  repeat((first | refine ZSa ?_ | refine ZSb ?_ | (refine Zf rfl (by rfl) (λ w' ci=>by(obtain⟨k0,k1,k2,k3,k4⟩:=Zct (kC.out.ob ci.below));(have q0:=(NK.out.ob ci.below).cell 0);(simp only[ZD,ZE] at q0);(obtain⟨x0,x1,x2,x3,x4,x5,x6,x7,x8,x9,eE,eG⟩:=(BM.out.ob ci.below).ae);go_simp;with_reducible rfl) ?_));simp only[Act.put,ZA,ZB,ZC])
  obtain⟨w6,em,wM,mK⟩:=Zcn Zjo underlying197 underlying9 (Hs.out.below ((ZW w5.heap.size w5).drew)) e.key (.slice a4 (ZaP lb e).length iB);refine ZSe λ K hK=>?_
  go_simp;refine hK.out _ _ ?_;clear hK K;refine ZSf ?_;have qv:w5.grownBy w6 (some mb):=(ZeL w5 _).trans mK;obtain⟨JG,ur⟩:=ZH2 wM qv;clear wM em mK qv bR;go_wp2
  go_ret;have qy:∀ v es,RowAt dG t w5 v es->RowAt dG t w6 v es:=λ v es hr=>⟨Zh hr.row (λ g hg hl=>ur.out.block g hl (λ h=>by injection h with h;exact Zi3 hr.row Hs.out g hg h)),hr.own⟩
  refine⟨rfl,dG,⟨Dj.out,1,some mb,_,_,kC.out.grown ur.out (by intro h;injection h with h;exact J0.out h),?_,eU.out.put (qy _ _ (xN.out _ _ j8.out)) (λ j q hj dz=>⟨qy _ _ (xN.out _ _ (sJ.out j q hj dz).1),(sJ.out j q hj dz).2⟩),.inr ⟨rfl,mb,rfl,vk.out,?_⟩⟩,jn.out.aG ur.out (λ hl=>?_)⟩
  ·rw[M9.out,if_neg HC.out,←HT.out];exact(ZlC (λ x:List Ev × Value=>x.1) T e.key (ZaP lb e,Value.slice a4 (ZaP lb e).length iB)).symm
  ·have:=JG.out;rw[Zr5] at this;unfold keptVals at this ⊢;rw[ZlC (λ x:List Ev × Value=>x.2) T e.key (ZaP lb e,Value.slice a4 (ZaP lb e).length iB)] at this;exact this
  ·rw[←jn.out.old mb hl];exact vk.out
end
section
open Go.RowKit Go.Sort Go.Shelf Go.Maps
theorem Zqq(mb:Option Nat)(W:World):Calls prog 112 #[.map mb] W λ e w'=>e = .returned (.func (.func 153) #[] #[.pointer (some ⟨W.heap.size,0,none⟩)])/\w'=W.alloc (.cells #[.map mb] 197) :=
 (callsIn_wide (n:=5)).1 (AnyZ.keys_in Tryz.keys112 Fence.wide 5 trivial rfl mb W)
theorem Zom{W:World}{g:Nat}(hg:W.cell? ⟨g,0,none⟩=some (.map none))(eB:g<W.heap.size):
  Calls prog 111 #[.func (.func 153) #[] #[.pointer (some ⟨g,0,none⟩)]] W λ r w'=>r = .returned (.slice none 0 0)/\Below W.heap.size W w':=by
 have Bi:SeqGives Fence.wide 2 prog 153 #[.pointer (some ⟨g,0,none⟩)] encStr (λ ss:List (List UInt8)=>ss=[]) 0 W :=
  AnyZ.keys_gives_nil (ρ := Tryz.keys112_ren) { Tryz.keys112 with } Fence.wide _ trivial rfl g _ eB hg
 have pW:∀ m,AnyZ.SortsIn prog Tryz.sorted111_ren Fence.wide m:=λ m =>
  ⟨λ blk off cap ss W hH bY dL=>callsIn_wide.2 (AnyM.slices_Sort_string Tryz.sort152 blk off cap ss W hH bY dL),
   λ p cap W=>callsIn_wide.2 (AnyM.slices_Sort_string_none Tryz.sort152 p cap W)⟩
 have hc:=AnyZ.sorted_in Tryz.sorted111 Fence.wide 5 trivial trivial trivial trivial rfl ZO (pW _) (enters_of func152 ZK rfl) 153 #[.pointer (some ⟨g,0,none⟩)] trivial (enters_of func153 ZK rfl) _ 0 (Nat.zero_le _) ZO _ Bi;refine((callsIn_wide (n:=5)).1 hc).mono ?_;rintro r w' ⟨v,ss,rfl,hS,_,L9,bW⟩;exact⟨by rw[L9.2 hS],bW⟩
def listN(K:List (ByteArray × List Ev)):List Con:=(ZaS (K.map (·.1))).flatMap λ k=>Zc1 ((ZaH K k).getD [])
theorem Zol{W:World}{m:Option Nat}{g:Nat}{L:List (ByteArray × Value)}(h:(m=none/\L=[])∨∃ mb,m=some mb/\MapKV Value.string W mb L)(hl:L.length<=1000000)(hk:∀ p∈L,p.1.size<=1000000)(hg:W.cell? ⟨g,0,none⟩=some (.map m))(eB:g<W.heap.size):
  Calls prog 111 #[.func (.func 153) #[] #[.pointer (some ⟨g,0,none⟩)]] W λ r w'=>∃ v,r = .returned v/\w'.ownsRow W.heap.size 9 1 v (ZaS (L.map (·.1))).length ((ZaS (L.map (·.1))).map Value.string)/\Below W.heap.size W w':=by
 rcases h with ⟨rfl,rfl⟩|⟨mb,rfl,hm⟩
 ·refine(Zom hg eB).mono ?_;rintro _ w' ⟨rfl,hb⟩;exact⟨_,rfl,⟨by simp[ZaS],.inl ⟨rfl,by simp[ZaS]⟩⟩,hb⟩
 ·exact ZmB (w:=W) hm hl hk hg eB (ZL _)
theorem Zk2{w:World}{B:Nat}{v:Value}{ps:List (Con × Value × Value)}(h:ConRows B w v ps):∀ u∈conCells ps,u.oneCell'=true:=by
 intro u hu;simp only[conCells,List.mem_flatMap] at hu;obtain⟨p,hp,hu⟩:=hu;exact ZiA (h.s0 p hp) (h.s1 p hp) u hu
theorem ZfZ(l:List Ev):(Zc1 l).length<=l.length:=by
 unfold Zc1;rw[List.length_map];exact ZnI l
theorem Zgb{β : Type}{T:List (ByteArray × β)}{k:ByteArray}{x : β}(h:ZaH T k=some x):(k,x)∈T:=by
 unfold ZaH at h
 cases hf:T.find? (λ p=>decide (p.1=k)) with
 | none=>rw[hf] at h;cases h
 | some p =>
  rw[hf] at h;injection h with h;have h1:=List.find?_some hf;have h2:=List.mem_of_find?_eq_some hf;have h3:p.1=k:=by simpa using h1
  rw[←h,←h3];exact h2
theorem ZfI{α β : Type}(f : α -> List β)(m:Nat):∀ l:List α,(∀ x∈l,(f x).length<=m)->(l.flatMap f).length<=l.length*m
 | [],_=>ZM
 | x::l,h=>by
  have h1:=h x ZM;have h2:=ZfI f m l (λ y hy=>h y (by simp[hy]));simp only[List.flatMap_cons,ZI,List.length_cons,Nat.succ_mul];omega
theorem Zj8{own:Own}{t p:Nat}{w:World}{K:List (ByteArray × List Ev)}(h:LiveAt own t w p K)(hK:K.length<=1000)(hb:∀ x∈K,x.1.size<=1000000/\x.2.length<=100/\∀ e∈x.2,e.r<5):
  Calls prog 63 #[.pointer (some ⟨p,0,none⟩)] w (ZfV (listN K) w):=by
 obtain⟨_,d,m,size,T,bY,hT,kr,hd⟩:=h;have wv:(m=none/\keptVals T=[])∨∃ mb,m=some mb/\MapKV Value.string w mb (keptVals T):=by
  rcases hd with ⟨_,h2,h3⟩|⟨_,mb,h2,_,h3⟩
  ·exact .inl ⟨h2,by rw[h3];rfl⟩
  ·exact .inr ⟨mb,h2,h3⟩
 obtain⟨k0,k1,k2,k3,k4⟩:=Zct bY;have ce:=bY.lt;obtain⟨s2,MS,MP,MQ,MR⟩:=info_parts Zo5;have hlen:T.length=K.length:=by rw[←hT];simp[keptEvs]
 have qz:(keptVals T).map (·.1)=K.map (·.1):=by rw[←hT];simp[keptVals,keptEvs]
 obtain⟨HB,HT,HR,HD,mU,iy,Jz⟩:=ZH7 bY hT kr wv hb hlen qz;clear bY hT kr hd wv hb hlen qz;go_enter func63,ntmps63;go_wp2_with fail;refine(Zqq m w).mono ?_;rintro _ w1 ⟨rfl,rfl⟩;have fH:=(ZW w.heap.size w).alloc (ZL _) (.cells #[.map m] 197)
 have Mv:=Zol (W:=w.alloc (.cells #[.map m] 197)) (m:=m) (g:=w.heap.size) (L:=keptVals T) (by
  rcases HD.out with h | ⟨mb,h1,h2⟩
  ·exact .inl h
  ·exact .inr ⟨mb,h1,h2.below fH⟩) (by simp only[keptVals,List.length_map];have:=iy.out;omega) (λ q hq=>by
  simp only[keptVals,List.mem_map] at hq;obtain⟨x,hx,rfl⟩:=hq
  exact(mU.out (x.1,x.2.1) (by rw[←HT.out];exact List.mem_map.2 ⟨x,hx,rfl⟩)).1) ((ZBn w 197 #[.map m]).cell 0) ZM
 rw[Jz.out] at Mv;obtain⟨Hz,iX⟩:=ZH2 Mv fH;clear Mv fH;go_wp2_with fail;refine Hz.out.mono ?_;rintro _ w2 ⟨v2,rfl,dC,bW⟩;obtain⟨a2,c2,rfl⟩:=Zs dC;obtain⟨ks,qA⟩:∃ ks,ks=ZaS (K.map (·.1)):=⟨_,rfl⟩;have kj:ks.length<=1000:=by rw[qA,Zb7,List.length_map];exact hK
 have yx:listN K=ks.flatMap λ k=>Zc1 ((ZaH K k).getD []):=by rw[qA];rfl
 rw[←qA] at dC ⊢;obtain⟨cH,eU,Hq⟩:=ZH3 (iX.out.trans (bW.mono iX.out.size)) dC yx;clear qA dC bW yx k0 k1 k2 k3 k4;go_wp2_with fail;go_loopw [3,13] (λ v i wr=>∃ (q:Nat) (ps:List (Con × Value × Value)),q<=ks.length/\i = .int .i64 q/\Hid (ps.map (·.1)=(ks.take q).flatMap λ k=>Zc1 ((ZaH K k).getD []))/\Hid (ConRows w2.heap.size wr v ps)/\Hid (Kept w2.heap.size w2 wr)) (λ _ i _=>ks.length-(intOf i).toNat)
 case atStart=>exact⟨0,[],Nat.zero_le _,rfl,ZH rfl,ZH (ConRows.nil _ _),ZH (ZKr w2)⟩
 case round =>
  obtain⟨q,ps,hq,rfl,ij,HC,qW⟩:=hrel;obtain⟨a8,c8,rfl⟩:=Zs HC.out.row;have fk:=cH.out.trans (qW.out.below.mono cH.out.size);by_cases dy:q<ks.length
  ·obtain⟨k,hk⟩:∃ k,ks[q]? = some k:=⟨_,ZX dy⟩;obtain⟨g,hg,eB,bU⟩:=Zby eU.out ZO;have eb:=bU q (by simp;exact dy);rw[List.getElem?_map,hk,Option.map_some,←qW.out.cells g q eB] at eb;subst hg;have LA:g<wr.heap.size:=ZR eB qW.out.le;have Pu:(0:Int)<=(q:Int):=ZO;obtain⟨lb,sd⟩:∃ lb,lb=(ZaH K k).getD []:=⟨_,rfl⟩;have tG:ZaH (keptVals T) k=(ZaH T k).map (·.2):=Zga (λ x:List Ev × Value=>x.2) T k;have ry:ZaH K k=(ZaH T k).map (·.1):=by rw[←HT.out];exact Zga (λ x:List Ev × Value=>x.1) T k
   obtain⟨vb,uO⟩:∃ vb,vb=(ZaH (keptVals T) k).getD (.slice none 0 0):=⟨_,rfl⟩;have cQ:w.ownsRow 0 89 12 vb lb.length (evCells lb)/\lb.length<=100/\∀ e∈lb,e.r<5:=by
    cases mz:ZaH T k with
    | none =>
     rw[mz] at tG ry;rw[uO,sd,tG,ry];exact⟨⟨rfl,.inl ⟨rfl,rfl⟩⟩,ZM,λ e he=>by simp at he⟩
    | some x =>
     rw[mz] at tG ry;rw[uO,sd,tG,ry];have hx:=mU.out (k,x.1) (Zgb ry);exact⟨(HR.out.row (k,x) (Zgb mz)).row,hx.2⟩
   obtain⟨BU,RV,rfl,eD⟩:=EvSl.ab cQ.1;have Ro:=ZH (ZrA (eD.below fk) cQ.2.1 cQ.2.2);have hB:=HB.out.ob fk;obtain⟨k0,k1,k2,k3,k4⟩:=Zct hB;have Cc:=hB.lt;have kV:(Instr.lookup 197 (.map m) (.string k) false).run prog wr = .ok (.slice BU lb.length RV) wr:=by
    rcases HD.out with ⟨h1,h2⟩|⟨mb,h1,h2⟩
    ·rw[h1,uO,h2];simp[Instr.lookup,Sem.run_bind,run_underlying (w:=wr) underlying197,go_sem];rfl
    ·rw[h1,uO];exact Zj9 (h2.below fk) k
   have fQ:ps.length<=q*100:=by
    have:=congrArg List.length ij.out;rw[List.length_map] at this;rw[this];refine ZT (ZfI _ 100 _ (λ x _=>?_)) (by rw[ZV];exact Nat.mul_le_mul_right _ (Nat.min_le_left _ _));refine ZT (ZfZ _) ?_
    cases mz:ZaH K x with
    | none=>simp
    | some y=>exact(mU.out (x,y) (Zgb mz)).2.1
   have fh:((ks.take (q+1)).flatMap λ k=>Zc1 ((ZaH K k).getD []))=((ks.take q).flatMap λ k=>Zc1 ((ZaH K k).getD []))++Zc1 lb:=by
    rw[List.take_add_one,hk,sd];simp
   obtain⟨mE,Rc⟩:=ZH2 fh cQ.2.1;clear hk bU fh tG ry uO sd cQ eD hB;go_wp2_with fail;refine Ro.out.mono ?_;rintro _ w6 ⟨v6,qs,rfl,Mn,kF,eu⟩;have Mm:qs.length<=100:=by
    have:=congrArg List.length Mn;rw[List.length_map] at this;rw[this];exact ZT (ZfZ _) Rc.out
   obtain⟨a6,c6,rfl⟩:=Zs kF.row;obtain⟨iz,iH⟩:=ZH2 (Zk2 kF) (Reads.ab kF.row);have B4:=HC.out.below eu;have sc:=qW.out.step eu;obtain⟨HQ,QP,me,Ru⟩:=ZH4 (kF.mono qW.out.le) B4 sc Mn;have fc:=sc.le;have i8:=ZH B4.row;clear kF B4 sc Mn eu
   go_wp2_with (first
    |(at_builtin
      refine Zc _ rfl (.tmp 17) (.tmp 24) _ rfl w2.heap.size 66 s2 _ 7 104 underlying38 MS MP MQ MR rfl ZO (.slice a8 ps.length c8) ps.length (conCells ps) rfl i8.out _ a6 qs.length c6 (conCells qs) rfl iH.out iz.out ZF ZO fc ?_;intro v7 w7 bX cN _;have kF:=QP.out.push (qs:=qs) cN bX HQ.out.s0 HQ.out.s1;have mf:Hid (Kept w2.heap.size w2 w7):=ZH (⟨me.out.below.grown cN me.out.le (λ g hg=>(Zb i8.out hg).1),ZT me.out.le cN.size⟩);have zr:=ZH kF
      clear bX cN kF))
   go_roundw
   case rel=>exact⟨q+1,_,ZO,ZN,ZH (by rw[mE.out,List.map_append,ij.out,Ru.out]),zr,mf⟩
   case measure=>simp[intOf];omega
  ·obtain rfl:q=ks.length:=ZO;rw[List.take_length] at ij;go_wp2
   go_ret;exact⟨_,ps,rfl,by rw[ij.out,Hq.out],HC.out.mono cH.out.size,fk⟩
end
section
theorem Zd8{l:List Ev}{e:Ev}{k:Nat}{f:Ev->Bool}{x:Ev}(h:x∈Zbn l e k f):x∈l:=(List.mem_filter.1 h).1
theorem ZpV{l:List Ev}{e x:Ev}(h:x∈ZaP l e):x∈l∨x=e:=by
 unfold ZaP at h;split at h
 ·simpa using h
 ·split at h
  ·exact .inl (Zd8 (List.mem_filter.1 h).1)
  ·split at h
   ·split at h
    ·rcases List.mem_append.1 h with h | h
     ·exact .inl (Zd8 h)
     ·exact .inr (by simpa using h)
    ·exact .inl h
   ·split at h
    ·exact .inl (Zd8 h)
    ·split at h
     ·rcases List.mem_append.1 h with h | h
      ·exact .inl (Zd8 h)
      ·exact .inr (by simpa using h)
     ·exact .inl h
theorem ZpU(l:List Ev)(e:Ev):(ZaP l e).length<=l.length+1:=by
 have h1:=λ k f=>Zbq l e k f
 unfold ZaP;split
 ·simp
 ·split
  ·exact ZT (List.length_filter_le _ _) (Nat.le_succ_of_le (h1 _ _))
  ·split
   ·split
    ·rw[ZI];exact Nat.add_le_add (h1 _ _) (ZL _)
    ·omega
   ·split
    ·exact Nat.le_succ_of_le (h1 _ _)
    ·split
     ·rw[ZI];exact Nat.add_le_add (h1 _ _) (ZL _)
     ·omega
section
variable {β : Type}{T:List (ByteArray × β)}{k:ByteArray}{v : β}
theorem ZqK{x:ByteArray × β}(h:x∈Zei T k v):x∈T∨x=(k,v):=by
 unfold Zei at h;split at h
 ·exact List.mem_or_eq_of_mem_set h
 ·simpa using h
theorem ZqJ:(Zei T k v).length<=T.length+1:=by
 unfold Zei;split <;> simp
theorem Zqa{x:ByteArray × β}(h:x∈Zeb T k):x∈T:=by
 unfold Zeb at h;split at h
 ·exact List.mem_of_mem_eraseIdx h
 ·exact h
theorem Zp9:(Zeb T k).length<=T.length:=by
 unfold Zeb;split
 ·exact List.length_eraseIdx_le _ _
 ·exact ZL _
end
structure BookInv(n:Nat)(K:List (ByteArray × List Ev)):Prop where
 keys:K.length<=n
 row:∀ x∈K,x.1.size<=1000000/\x.2.length<=n/\∀ e∈x.2,e.r<5
theorem BookInv.nil(n:Nat):BookInv n []:=⟨Nat.zero_le _,λ x h=>by cases h⟩
theorem BookInv.get{n:Nat}{K:List (ByteArray × List Ev)}(h:BookInv n K){k:ByteArray}{l:List Ev}(hk:ZaH K k=some l):l.length<=n/\∀ x∈l,x.r<5:=(h.row _ (Zgb hk)).2
theorem BookInv.more{n m:Nat}{K:List (ByteArray × List Ev)}(h:BookInv n K)(hm:n<=m):BookInv m K:=⟨ZT h.keys hm,λ x hx=>⟨(h.row x hx).1,ZT (h.row x hx).2.1 hm,(h.row x hx).2.2⟩⟩
theorem BookInv.apply{n:Nat}{K:List (ByteArray × List Ev)}(h:BookInv n K){e:Ev}(he:e.Ok):BookInv (n+1) (applyN K e):=by
 have h1:=h.more (Nat.le_succ n);have hl:((ZaH K e.key).getD []).length<=n/\∀ x∈(ZaH K e.key).getD [],x.r<5:=by
  cases hg:ZaH K e.key with
  | none=>simp
  | some l=>exact h.get hg
 unfold applyN;split
 ·exact⟨ZT Zp9 h1.keys,λ x hx=>h1.row x (Zqa hx)⟩
 ·refine⟨ZT ZqJ (Nat.succ_le_succ h.keys),λ x hx=>?_⟩;rcases ZqK hx with hx | rfl
  ·exact h1.row x hx
  ·refine⟨?_,ZT (ZpU _ _) (Nat.succ_le_succ hl.1),λ y hy=>?_⟩
   ·have:=he.edit.key.2.1;simp;omega
   ·rcases ZpV hy with hy | rfl
    ·exact hl.2 y hy
    ·exact he.r
theorem BookInv.fold{l:List Ev}:∀ {n:Nat} {K:List (ByteArray × List Ev)},BookInv n K->(∀ e∈l,e.Ok)->BookInv (n+l.length) (l.foldl applyN K):=by
 induction l with
 | nil=>exact λ h _=>h
 | cons e l ih =>
  intro n K h he;have:=ih (h.apply (he e ZM)) (λ x hx=>he x (List.mem_cons_of_mem _ hx));rw[show n+(e::l).length=n+1+l.length by simp;omega];exact this
end
theorem Zg2{f:Frm}(h:f.Ok){a:Option Addr}{n cap:Nat}{w:World}(hs:EvSl w a n cap f.events):Calls prog 140 #[Z8 f (.slice a n cap)] w λ r w'=>∃ v,r = .returned (.tuple #[.int .i64 f.r,v,.int .i64 0])/\w'.ownsRow w.heap.size 5 1 v (Zk f).length (cells (Zk f))/\Below w.heap.size w w':=by
 have cA:=(ZKr w).alloc (.cells (Za f (.slice a n cap)) 158);obtain⟨di,ei,H,df⟩:=ZH4 (ZBn w 158 (Za f (.slice a n cap))) (hs.below cA.below) h cA;clear h cA hs;go_enter func140,ntmps140;go_wp2_with fail;refine(Zfo H.out ei.out).mono ?_;rintro _ w1 ⟨v1,rfl,eh,bS⟩;have cW:=di.out.ob bS;obtain⟨c0,c1,c2,c3,c4,c5,c6,c7,c8⟩:=cW.nine;have ce:=cW.lt;obtain⟨ez,cE⟩:=ZH2 eh (df.out.step bS);clear cW eh bS;go_wp2_with fail;go_ret3
 exact⟨v1,rfl,Zi ez.out df.out.le,cE.out.below⟩
theorem ZeC{own:Own}{t p most:Nat}{sh:List Sh}{told:List Clk}{w:World}(h:PostAt own t w p most sh told)(hf:Fresh own w)(hN:sh.length<=5)(hk:∀ s∈sh,s.kept.length<=1000000/\s.base<=1000000):
  Calls prog 98 #[.pointer (some ⟨p,0,none⟩)] w (Zv (Zc4 true (Zew sh) (lenOf sh) (Za9 told)) w):=by
 obtain⟨B,hB⟩:∃ B,B=Zew sh:=⟨_,rfl⟩;obtain⟨L,hL⟩:∃ L,L=lenOf sh:=⟨_,rfl⟩;rw[←hB,←hL];obtain⟨fE,H,HF,HK,HB,HL⟩:=ZH6 (h.len) h hf hk hB hL;clear h hf hk hB hL;go_enter func98,ntmps98;go_wp2_with fail;have hz:=ZBn w 56 (Zt false ZCz ZCz (List.replicate 5 ZCz));have cA:=(ZKr w).alloc (.cells (Zt false ZCz ZCz (List.replicate 5 ZCz)) 56);have wR:=H.out.upd (ZUb (T:=λ _=>False) cA.below HF.out) (λ i _ h=>h);have qr:=(ZUb (T:=λ _=>False) cA.below HF.out).fresh;refine(Zkh wR qr hN _ (.inr rfl) (λ s=>s.base) (λ q s w tt hs h=>Zog h)).mono ?_;rintro _ w1 ⟨rfl,bS⟩;rw[show ZbQ (λ s=>s.base) sh sh.length=B from HB.out.symm];obtain⟨cE,mn⟩:=ZH2 (cA.step bS) (hz.ob bS);clear hz cA wR qr bS;go_wp2_with fail;have jT:=H.out.upd (ZUb (T:=λ _=>False) cE.out.below HF.out) (λ i _ h=>h);have B8:=(ZUb (T:=λ _=>False) cE.out.below HF.out).fresh;refine(Zkh jT B8 hN _ (.inl rfl) (λ s=>s.base+s.kept.length) (λ q s w tt hs h=>Zdk h (HK.out s hs).2 (HK.out s hs).1)).mono ?_;rintro _ w2 ⟨rfl,bW⟩;rw[show ZbQ (λ s=>s.base+s.kept.length) sh sh.length=L from HL.out.symm];obtain⟨cr,pB⟩:=ZH2 (cE.out.step bW) (mn.out.ob bW);clear jT B8 bW cE mn
 go_wp2_with (first
  |(refine Zan rfl 56 _ rfl (Zt true B L (List.replicate 5 ZCz)) ?hf ?_
    case hf =>
     simp only[List.map_toArray,List.map_cons,List.map_nil]
     exact ZoE _ _ _ _ _ _ _ _ _ _)
  |(refine Zy rfl 56 rfl (Zt false ZCz ZCz (List.replicate 5 ZCz)) ZK ?_)
  |(refine wpList_store_row rfl 56 (.tmp 3) (.tmp 8) rfl w2.heap.size (Zt true B L (List.replicate 5 ZCz)) rfl rfl 56 (Zt false ZCz ZCz (List.replicate 5 ZCz)) (ZBn _ _ _) ZK (by simp only[Zcb,List.length_replicate]) (Zdq _ _ _ _) ?_
    obtain⟨W3,m7⟩:∃ W3,W3=(w2.alloc (.cells (Zt false ZCz ZCz (List.replicate 5 ZCz)) 56)).setRow w2.heap.size (Zt true B L (List.replicate 5 ZCz)):=⟨_,rfl⟩;rw[←m7];have nJ:=ZH m7
    clear m7))
 simp only[Act.put,ZA,ZB,ZC];have pd:Blk W3 w2.heap.size 56 (Zt true B L (List.replicate 5 ZCz)):=by
  rw[nJ.out];exact(ZBn _ _ _).row _
 have cY:Kept w.heap.size w W3:=by
  rw[nJ.out];exact(cr.out.alloc _).row cr.out.le _
 have xl:Blk W3 w.heap.size 56 (Zt false ZCz ZCz (List.replicate 5 ZCz)):=by
  rw[nJ.out];exact(pB.out.alloc _).aP (by have:=pB.out.lt;omega) _
 have gi:=H.out.upd (ZUb (T:=λ _=>False) cY.below HF.out) (λ i _ h=>h);have IJ:=H.out.bE;obtain⟨g1,g2,gs,s8,gt,cs,h3,g4,g5,h6,h7,h8,h9⟩:=gi;obtain⟨c0,c1⟩:=h3.two;have ce:=h3.lt;have qo:(Builtin.copy_ #[240,240] 3 #[.slice (some ⟨w2.heap.size,11,none⟩) 5 5,.slice (some ⟨gt,0,none⟩) sh.length sh.length]).run prog W3.drew = .ok (goInt sh.length) (setAll W3.drew w2.heap.size 11 (clkCells told)):=by
  obtain⟨i0,hi,hz⟩:∃ i0,prog.info? 44=some i0/\i0.size=5:=by
   have h:=Zsu
   cases hq:prog.info? 44 with
   | none=>rw[hq] at h;simp at h
   | some i=>rw[hq] at h;exact⟨i,rfl,by simpa using h⟩
  have iP:Nat.min sh.length 5=sh.length:=Nat.min_eq_left hN;have Gr:Blk W3.drew w2.heap.size 56 (Zt true B L (List.replicate 5 ZCz)):=pd.drew;have dL:(Zt true B L (List.replicate 5 ZCz)).size=36:=by rw[Zcb,List.length_replicate]
  have h:=ZdF (P:=prog) W3.drew 240 240 3 44 i0 5 w2.heap.size 11 5 5 (some ⟨gt,0,none⟩) sh.length sh.length (clkCells told) underlying240 hi hz (by rw[Zb9,iP,fE.out]) (by rw[iP];exact Reads.ao h8.drew (by rw[Zb9,fE.out])) (λ j hj=>by
   rw[Zb9,fE.out] at hj;rw[Gr.cell,Array.getElem?_eq_getElem (by rw[dL];omega)]
   rfl) (λ j _=>Gr.frozen _) (ZgS _)
  rw[iP] at h;exact h
 obtain⟨qP,rY,cC,RL⟩:=ZH4 qo pd cY xl;clear qo pd cY xl h3 h7 h8 h9 g1 g2 g4 g5;refine ZSi [(0,3),(1,3),(2,3),(3,0),(4,3),(5,0),(6,2)] λ bR=>?_
 repeat((first | refine ZSa ?_ | refine ZSb ?_ | refine ZSc ?_);simp only[Act.put,ZA,ZB,ZC])
 refine ZSe λ K hK=>?_
 go_simp;rw[qP.out];refine hK.out _ _ ?_;clear hK K;refine ZSf ?_;obtain⟨W4,m8⟩:∃ W4,W4=setAll W3.drew w2.heap.size 11 (clkCells told):=⟨_,rfl⟩;rw[←m8];have ui:Blk W4 w2.heap.size 56 (Zt true B L (Za9 told)):=by
  rw[m8];exact Zqi B L (by rw[fE.out];exact hN) rY.out.drew
 have dr:Kept w.heap.size w W4:=by
  rw[m8];exact ZaB cC.out.drew cr.out.le 11 _
 have Gs:Blk W4 w.heap.size 56 (Zt false ZCz ZCz (List.replicate 5 ZCz)):=by
  rw[m8];exact(Zaj (by have:=pB.out.lt;omega) _ _ _).trans RL.out.drew
 obtain⟨xT,cZ,DP⟩:=ZH3 ui dr Gs;clear ui dr Gs m8 c0 c1 qP;have h5:(Za9 told).length=5:=ZcT (by rw[fE.out];exact hN);have H5:=ZH h5;clear h5
 go_wp2_with (first
  |(refine wpList_load_row rfl 56 (.tmp 3) rfl w2.heap.size rfl 56 (Zt true B L (Za9 told)) (0,0) _ xT.out underlying56 rfl (ZbR _ _ _ H5.out) ?_)
  |(refine wpList_store_row rfl 56 (.tmp 2) (.tmp 16) rfl w.heap.size (Zt true B L (Za9 told)) rfl rfl 56 (Zt false ZCz ZCz (List.replicate 5 ZCz)) DP.out (ZbR _ _ _ H5.out) (by simp only[Zcb,List.length_replicate,H5.out]) (Zdq _ _ _ _) ?_))
 refine bodyPost_end (Zac rfl rfl (run_loadVar_row _ _ _ _ _ _ _ (DP.out.row _) underlying56 rfl (ZbR _ _ _ H5.out))) rfl ?_;exact⟨rfl,(cZ.out.row (ZL _) _).below⟩
theorem ZdM(n m:Nat)(h1:1<=n)(h2:n<=m)(w:World):Calls prog 103 #[.int .i64 n,.int .i64 m] w (Zv (.bool true) w):=by
 have i1:(1:Int)<=(n:Int):=ZO;have i2:(n:Int)<=(m:Int):=ZO;go_enter func103,ntmps103;go_wp2
 go_ret;exact⟨ZM,ZW _ _⟩
theorem Zla(c:Cfg)(hc:c.Ok)(w:World):Calls prog 57 #[ZdX c] w (Zv (.bool true) w):=by
 obtain⟨n1,n5,w1,w4,q1,q8,h1,h20,l1,l4,p1,p3⟩:=hc;obtain⟨HB,HK⟩:=ZH2 (ZBn w 23 (Zal c)) ((ZKr w).alloc (.cells (Zal c) 23));go_enter func57,ntmps57;go_wp2_with fail;refine(ZdM c.n 5 n1 n5 _).mono ?_;rintro _ wa ⟨rfl,lx⟩;obtain⟨G8,Nu⟩:=ZH2 (HB.out.ob lx) (HK.out.step lx);obtain⟨c0,c1,c2,c3,c4,c5⟩:=G8.out.aS;have ce:=G8.out.lt;clear lx HB HK;go_wp2_with fail;refine(ZdM c.w 4 w1 w4 _).mono ?_;rintro _ wb ⟨rfl,r9⟩;obtain⟨G9,Nv⟩:=ZH2 (G8.out.ob r9) (Nu.out.step r9);clear c0 c1 c2 c3 c4 c5 ce;obtain⟨c0,c1,c2,c3,c4,c5⟩:=G9.out.aS;have ce:=G9.out.lt;clear r9 G8 Nu;go_wp2_with fail;refine(ZdM c.q 8 q1 q8 _).mono ?_;rintro _ wc ⟨rfl,yf⟩;obtain⟨Hc,Nw⟩:=ZH2 (G9.out.ob yf) (Nv.out.step yf);clear c0 c1 c2 c3 c4 c5 ce;obtain⟨c0,c1,c2,c3,c4,c5⟩:=Hc.out.aS;have ce:=Hc.out.lt;clear yf G9 Nv;go_wp2_with fail;refine(ZdM c.h 20 h1 h20 _).mono ?_;rintro _ wd ⟨rfl,B0⟩;obtain⟨Hd,Nx⟩:=ZH2 (Hc.out.ob B0) (Nw.out.step B0);clear c0 c1 c2 c3 c4 c5 ce;obtain⟨c0,c1,c2,c3,c4,c5⟩:=Hd.out.aS;have ce:=Hd.out.lt;clear B0 Hc Nw;go_wp2_with fail;refine(ZdM c.l 4 l1 l4 _).mono ?_;rintro _ we ⟨rfl,nf⟩;obtain⟨Nb,Q8⟩:=ZH2 (Hd.out.ob nf) (Nx.out.step nf);clear c0 c1 c2 c3 c4 c5 ce;obtain⟨c0,c1,c2,c3,c4,c5⟩:=Nb.out.aS;have ce:=Nb.out.lt;clear nf Hd Nx;go_wp2_with fail;refine(ZdM c.p 3 p1 p3 _).mono ?_;rintro _ wf ⟨rfl,iN⟩;have Q9:=ZH (Q8.out.step iN);clear iN c0 c1 c2 c3 c4 c5 ce;go_wp2
 go_ret;exact⟨rfl,Q9.out.below⟩
def StrSl(w:World)(a:Option Addr)(n cap:Nat)(ss:List ByteArray):Prop:=n<=cap/\ss.length=n/\(n=0∨∃ b off,a=some ⟨b,off,none⟩/\b<w.heap.size/\∀ i s,ss[i]? = some s->w.cell? ⟨b,off+i,none⟩=some (.string s))
theorem StrSl.below{w w':World}{a:Option Addr}{n cap:Nat}{ss:List ByteArray}(h:StrSl w a n cap ss)(hb:Below w.heap.size w w'):StrSl w' a n cap ss:=by
 refine⟨h.1,h.2.1,?_⟩;rcases h.2.2 with h0 | ⟨b,off,h1,h2,h3⟩
 ·exact .inl h0
 ·exact .inr ⟨b,off,h1,ZR h2 hb.size,λ i s hs=>by rw[hb.cell (p:=⟨b,off+i,none⟩) h2];exact h3 i s hs⟩
theorem ZpO{a b:ByteArray}(h:¬ a=b):(a.toList==b.toList)=false:=by
 rw[←beq_toListBytes];rcases hx:(a==b) with _ | _
 ·rfl
 ·exact absurd ((Go.MapKept.bytes_beq a b).1 hx) h
theorem Zo4{w:World}{a:Option Addr}{n cap:Nat}{ss:List ByteArray}(h:StrSl w a n cap ss)(hn:n<=1000000)(s:ByteArray):
  Calls prog 150 #[.slice a n cap,.string s] w λ r w'=>∃ i:Int,r = .returned (.int .i64 i)/\(0<=i↔s∈ss)/\Below w.heap.size w w':=by
 obtain⟨HS,fE⟩:=ZH2 h (h.2.1);clear h;go_enter func150,ntmps150;go_wp2_with fail;go_loopw [5,8] (λ _ i wr=>∃ q:Nat,q<=n/\i = .int .i64 q/\Hid (∀ j x,j<q->ss[j]? = some x->x≠s)/\wr=w) (λ _ i _=>n-(intOf i).toNat)
 case atStart=>exact⟨0,ZO,rfl,ZH (λ j x hj=>ZO),rfl⟩
 case round =>
  obtain⟨q,hq,rfl,HN,rfl⟩:=hrel;by_cases dy:q<n
  ·obtain⟨x,hx⟩:∃ x,ss[q]? = some x:=⟨_,ZX (by rw[fE.out];exact dy)⟩;rcases HS.out.2.2 with h0 | ⟨b,off,rfl,hb,hc⟩
   ·omega
   have c0:=hc q x hx;have HX:=ZH hx;clear hx hc;by_cases IS:s=x
   ·have tC:(s.toList==x.toList)=true:=by simp[IS]
    go_wp2
    go_ret;refine⟨q,rfl,⟨λ _=>?_,λ _=>ZO⟩,ZW _ _⟩;rw[IS];exact ZY HX.out
   ·have tC:(s.toList==x.toList)=false:=ZpO IS;go_wp2
    go_roundw
    case rel=>exact⟨q+1,ZO,ZN,ZH (λ j y hj hy=>by
     rcases Nat.lt_or_ge j q with h | h
     ·exact HN.out j y h hy
     ·obtain rfl:j=q:=ZO;rw[HX.out] at hy;injection hy with hy;rw[←hy]
      exact λ e=>IS e.symm),by first | rfl | trivial⟩
    case measure=>simp[intOf];omega
  ·obtain rfl:q=n:=ZO;go_wp2
   go_ret;refine⟨-1,rfl,⟨λ h=>ZO,λ h=>?_⟩,ZW _ _⟩;obtain⟨j,hj,he⟩:=List.getElem_of_mem h;exact absurd he (HN.out j _ (by rw[←fE.out];exact hj) (ZX hj))
theorem Zk3{w:World}{a:Option Addr}{n cap:Nat}{ss:List ByteArray}(h:StrSl w a n cap ss)(hn:n<=1000000)(s:ByteArray):
  Calls prog 110 #[.slice a n cap,.string s] w λ r w'=>∃ t:Bool,r = .returned (.bool t)/\(t=true↔s∈ss)/\Below w.heap.size w w':=by
 have HI:=ZH (Zo4 h hn s);clear h;go_enter func110,ntmps110;go_wp2_with fail;refine HI.out.mono ?_;rintro _ w1 ⟨i,rfl,oC,hb⟩;obtain⟨HF,HB⟩:=ZH2 oC hb;clear oC hb;go_wp2
 go_ret;exact⟨_,rfl,by simpa using HF.out,HB.out⟩
def ConSl(w:World)(a:Option Addr)(n cap:Nat)(cs:List Con):Prop:=n<=cap/\cs.length=n/\(n=0∨∃ b off,a=some ⟨b,off,none⟩/\b<w.heap.size/\∀ (i:Nat) (c:Con),cs[i]? = some c->∃ a0 n0 c0 a1 n1 c1,(∀ j,j<7->w.cell? ⟨b,off+i*7+j,none⟩=(Za3 c (.slice a0 n0 c0) (.slice a1 n1 c1))[j]?)/\StrSl w a0 n0 c0 c.s0/\StrSl w a1 n1 c1 c.s1)
theorem Zo3{w:World}{a:Option Addr}{n cap:Nat}{cs:List Con}(h:ConSl w a n cap cs)(hn:n<=1000000)(g:Nat)(ek:ByteArray)(hk:w.cell? ⟨g,1,none⟩=some (.string ek))(hg:g<w.heap.size):
  Calls prog 108 #[.slice a n cap,.func (.func 109) #[] #[.pointer (some ⟨g,0,none⟩)]] w λ r w'=>∃ i:Int,r = .returned (.int .i64 i)/\((∃ k:Nat,i=k/\∃ c,cs[k]? = some c/\c.key=ek/\∀ j c',j<k->cs[j]? = some c'->c'.key≠ek)∨(i = -1/\∀ c∈cs,c.key≠ek))/\Below w.heap.size w w':=by
 obtain⟨HS,fE,lZ,Nm⟩:=ZH4 h (h.2.1) hk hg;clear h hk hg;go_enter func108,ntmps108;go_wp2_with fail;go_loopw [5,8] (λ _ i wr=>∃ q:Nat,q<=n/\i = .int .i64 q/\Hid (∀ j c,j<q->cs[j]? = some c->c.key≠ek)/\Hid (Kept w.heap.size w wr)) (λ _ i _=>n-(intOf i).toNat)
 case atStart=>exact⟨0,ZO,rfl,ZH (λ j x hj=>ZO),ZH (ZKr w)⟩
 case round =>
  obtain⟨q,hq,rfl,HN,HK⟩:=hrel;by_cases dy:q<n
  ·obtain⟨c,hc⟩:∃ c,cs[q]? = some c:=⟨_,ZX (by rw[fE.out];exact dy)⟩;rcases HS.out.2.2 with h0 | ⟨b,off,rfl,hb,gz⟩
   ·omega
   obtain⟨a0,n0,c0,a1,n1,c1,bU,_,_⟩:=gz q c hc;have k0:=bU 0 ZO;have k1:=bU 1 ZO;have k2:=bU 2 ZO;have k3:=bU 3 ZO;have k4:=bU 4 ZO;have k5:=bU 5 ZO;have k6:=bU 6 ZO;rw[←HK.out.cells b _ hb] at k0 k1 k2 k3 k4 k5 k6;simp only[ZD,ZE,ZG,Nat.add_zero] at k0 k1 k2 k3 k4 k5 k6;have fk:b<wr.heap.size:=ZR hb HK.out.le;have IA:wr.cell? ⟨g,1,none⟩=some (.string ek):=by rw[HK.out.cells g _ Nm.out];exact lZ.out
   have eB:g<wr.heap.size:=ZR Nm.out HK.out.le;obtain⟨md,HC⟩:=ZH2 (ZoN c a0 a1 n0 c0 n1 c1 g ek IA eB) hc;clear hc gz bU IA eB;go_wp2_with fail;refine md.out.mono ?_;rintro _ w3 ⟨tt,rfl,oC,bZ⟩;obtain⟨HI,cC⟩:=ZH2 oC (HK.out.step bZ);clear oC bZ;rcases tt with _ | _
   ·go_wp2
    go_roundw
    case rel=>exact⟨q+1,ZO,ZN,ZH (λ j y hj hy=>by
     rcases Nat.lt_or_ge j q with h | h
     ·exact HN.out j y h hy
     ·obtain rfl:j=q:=ZO;rw[HC.out] at hy;injection hy with hy;rw[←hy]
      exact λ e=>by have:=HI.out.2 e;first | cases this | exact absurd this ZM),cC⟩
    case measure=>simp[intOf];omega
   ·go_wp2
    go_ret;exact⟨q,rfl,.inl ⟨q,rfl,c,HC.out,HI.out.1 (by first | rfl | trivial),HN.out⟩,cC.out.below⟩
  ·obtain rfl:q=n:=ZO;go_wp2
   go_ret;refine⟨-1,rfl,.inr ⟨rfl,λ c hc=>?_⟩,HK.out.below⟩;obtain⟨j,hj,he⟩:=List.getElem_of_mem hc;exact HN.out j c (by rw[←fE.out];exact hj) (by rw[ZX hj,he])
end Go.Proofs.YtjkfognelhiepaaGreat
