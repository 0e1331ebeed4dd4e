import Derived.Test.YtjkfognelhiepaaGreatC09
namespace Go.Proofs.YtjkfognelhiepaaGreat
open Go.RowKit _root_.Go.Proofs.Tryz
set_option maxRecDepth 100000
set_option maxHeartbeats 8000000
theorem ZrX:(prog.info? 299).map (λ i=>(i.zero,i.size,i.bytes))=some (some (.agg #[.int .i64 0,.int .i64 0]),2,16):=ZK
theorem Zru:(prog.info? 9).map (λ i=>(i.zero,i.size,i.bytes))=some (some (.string ⟨#[]⟩),1,16):=ZK
def Zl1(C:Con)(w:World)(r:Ending)(w':World):Prop:=∃ v0 v1,r = .returned (.agg (Za3 C v0 v1))/\w'.ownsRow w.heap.size 9 1 v0 C.s0.length (C.s0.map Value.string)/\w'.ownsRow w.heap.size 9 1 v1 C.s1.length (C.s1.map Value.string)/\Below w.heap.size w w'
theorem Zcm{w:World}{B pc n sz i:Nat}{e t:TypeId}{cs:Array Value}{v u:Value}{xs:List Value}(h:w.ownsRow B e sz v n xs)(hb:Blk w pc t cs)(dz:e≠t):(w.setCell ⟨pc,i,none⟩ u).ownsRow B e sz v n xs :=
 Zh h (λ g hg _=>Below.heap_setCell _ _ _ _ (λ he=>Zo h hb dz (by rw[hg,he])))
theorem Zby{w:World}{B n c sz:Nat}{e:TypeId}{a:Option Addr}{xs:List Value}(h:w.ownsRow B e sz (.slice a n c) n xs)(hn:0<n):∃ g,a=some ⟨g,0,none⟩/\g<w.heap.size/\∀ k,k<xs.length->w.cell? ⟨g,k,none⟩=xs[k]? := by
 rcases h.2 with ⟨h0,h1⟩|⟨g,cap,cur,h0,hb,hg,eH,ic,gz,js⟩
 ·omega
 ·injection h0 with h0 _ _
  refine⟨g,h0,Blk.lt (t:=e) hg,λ k hk=>?_⟩;rw[Blk.cell (t:=e) hg,←js,List.getElem?_take_of_lt (by have:=h.1;omega),Array.getElem?_toList]
theorem ZhY{w:World}{B g n sz:Nat}{e:TypeId}{v:Value}{xs:List Value}(h:w.ownsRow B e sz v n xs)(hg:v.ownBlock≠some g)(i:Nat)(vs:List Value):(setAll w g i vs).ownsRow B e sz v n xs :=
 Zh h (λ k h1 _=>Zaj (λ e=>hg (by rw[h1,e])) vs i w)
theorem Zh4:∀ (es:List Ev) (k:Nat) (e:Ev),es[k]? = some e->(Zbk es)[k*2]? = some (.int .i64 (e.height:Int))/\(Zbk es)[k*2+1]? = some (.int .i64 (e.r:Int))
 | [],k,e,h=>by simp at h
 | x::es,0,e,h=>by
  simp at h;subst h;simp[Zbk]
 | x::es,k+1,e,h=>by
  have ih:=Zh4 es k e (by simpa using h);simp only[Zbk,List.flatMap_cons] at ih ⊢;have e1:(k+1)*2=k*2+2:=ZO;rw[e1];exact ih
theorem Zjb{w:World}{B c:Nat}{a:Option Addr}{es:List Ev}(h:w.ownsRow B 299 2 (.slice a es.length c) es.length (Zbk es))(hn:0<es.length):∃ g,a=some ⟨g,0,none⟩/\Zoz w g 0 es.length (ZdJ es):=by
 obtain⟨g,h0,hg,hc⟩:=Zby h hn;refine⟨g,h0,hg,by simp[ZdJ],λ i hi=>?_⟩;obtain⟨x,hx⟩:∃ x,es[i]? = some x:=⟨_,ZX hi⟩;obtain⟨q1,q2⟩:=Zh4 es i x hx;have e1:(ZdJ es).getD i (0,0)=((x.height:Int),(x.r:Int)):=by simp[ZdJ,List.getD,hx]
 have hl:=ZmC es;rw[Nat.zero_add,hc _ ZO,hc _ ZO,q1,q2,e1];exact⟨rfl,rfl⟩
theorem Zm9(es:List Ev):ZbA es=(es.map (·.value)).map Value.string:=by simp[ZbA]
theorem Zl8{w:World}{a:Option Addr}{n cap:Nat}{ws:List Ev}(h:EvSl w a n cap ws)(hn:n<=100)(key:ByteArray):
  Calls prog 157 #[.string key,.slice a n cap] w (Zl1 (Zbd key ws) w):=by
 have fE:=ZH (h.2.2.1);obtain⟨s0,PQ,PL,PM,PO⟩:=info_parts ZrX;obtain⟨s1,Cs,Cp,Cq,Cr⟩:=info_parts Zru;obtain⟨di,HP,HC,HS⟩:=ZH4 (Zbu w (.cells (Za3 (Zbb ⟨#[]⟩ ws 0) (.slice none 0 0) (.slice none 0 0)) 66) (.cells (Za3 (Zbb key ws 0) (.slice none 0 0) (.slice none 0 0)) 66)) ((ZBn w 66 (Za3 (Zbb ⟨#[]⟩ ws 0) (.slice none 0 0) (.slice none 0 0))).alloc (.cells (Za3 (Zbb key ws 0) (.slice none 0 0) (.slice none 0 0)) 66)) (Z6 w (.cells (Za3 (Zbb ⟨#[]⟩ ws 0) (.slice none 0 0) (.slice none 0 0)) 66) 66 (Za3 (Zbb key ws 0) (.slice none 0 0) (.slice none 0 0))) h;clear h;go_enter func157,ntmps157;go_wp2_with fail;go_loopw [14] (λ i wr=>∃ (k:Nat) (v0 v1:Value),((k=0/\i = .int .i64 0)∨(k=1/\i = .int .i64 1)∨(k=2/\i = .int .i64 2))/\Hid (Blk wr (w.heap.size+1) 66 (Za3 (Zbb key ws k) v0 v1))/\Hid (Blk wr w.heap.size 66 (Za3 (Zbb ⟨#[]⟩ ws 0) (.slice none 0 0) (.slice none 0 0)))/\Hid (wr.ownsRow w.heap.size 9 1 v0 (Zbb key ws k).s0.length ((Zbb key ws k).s0.map Value.string))/\Hid (wr.ownsRow w.heap.size 9 1 v1 (Zbb key ws k).s1.length ((Zbb key ws k).s1.map Value.string))/\Hid (Kept w.heap.size w wr)) (λ i _=>2-(intOf i).toNat)
 case atStart=>exact⟨0,_,_,.inl ⟨rfl,rfl⟩,HC,HP,ZH ⟨rfl,.inl ⟨rfl,rfl⟩⟩,ZH ⟨rfl,.inl ⟨rfl,rfl⟩⟩,ZH (Kept.start di.out)⟩
 case round =>
  clear HC HP;obtain⟨k,v0,v1,hk,xv,xL,xR,xS,xB⟩:=hrel;obtain⟨W,Sy⟩:∃ W,W=wr:=⟨_,rfl⟩;subst Sy;have HW:=ZH (HS.out.below xB.out.below);rcases hk with ⟨rfl,rfl⟩|⟨rfl,rfl⟩|⟨rfl,rfl⟩
  ·go_wp2_with fail;go_loopw [7,8,9,19] (λ v7 v8 v9 i wr=>∃ q:Nat,q<=n/\i = .int .i64 q/\Hid (wr.ownsRow W.heap.size 299 2 v7 (Zm (ws.take q) key 0).length (Zbk (Zm (ws.take q) key 0)))/\Hid (wr.ownsRow W.heap.size 9 1 v8 (Zm (ws.take q) key 0).length (ZbA (Zm (ws.take q) key 0)))/\Hid (wr.ownsRow W.heap.size 9 1 v9 (Z0 (ws.take q) key 0).length (ZbA (Z0 (ws.take q) key 0)))/\Hid (Apart v8 v9)/\Hid (Kept W.heap.size W wr)) (λ _ _ _ i _=>n-(intOf i).toNat)
   case atStart=>exact⟨0,Nat.zero_le _,rfl,ZH ⟨rfl,.inl ⟨rfl,rfl⟩⟩,ZH ⟨rfl,.inl ⟨rfl,rfl⟩⟩,ZH ⟨rfl,.inl ⟨rfl,rfl⟩⟩,ZH (ZgO _ _ _),ZH (ZKr W)⟩
   case round =>
    obtain⟨q,hq,rfl,H7,H8,H9,mP,HK⟩:=hrel;by_cases dy:q<n
    ·obtain⟨e,he⟩:∃ e,ws[q]? = some e:=⟨_,ZX (by rw[fE.out];exact dy)⟩;have hs:=HW.out.of_same (w':=wr) (λ ad _ hl=>HK.out.below.block _ hl) HK.out.le;obtain⟨bk,off,rfl,cQ,c0,c1,c2,c3,c4,c5,c6,c7,c8,c9,cP,cR⟩:=hs.at_ he;have uL:Zm (ws.take (q+1)) key 0=Zm (ws.take q) key 0++if (decide (e.key=key)&&decide (e.label=0)&&decide (e.kind=3))=true then [e] else []:=by
      rw[Zag he];simp only[Zm,Zce,List.filter_append,List.filter_cons,List.filter_nil];by_cases h1:e.key=key <;> by_cases h2:e.label=0 <;> by_cases h3:e.kind=3 <;> simp[h1,h2,h3]
     have Ex:Z0 (ws.take (q+1)) key 0=Z0 (ws.take q) key 0++if (decide (e.key=key)&&decide (e.label=0) && !decide (e.kind=3))=true then [e] else []:=by
      rw[Zag he];simp only[Z0,Zce,List.filter_append,List.filter_cons,List.filter_nil];by_cases h1:e.key=key <;> by_cases h2:e.label=0 <;> by_cases h3:e.kind=3 <;> simp[h1,h2,h3]
     have Fv:(Zm (ws.take q) key 0).length<=1000:=by
      have h1:=List.length_filter_le (λ e:Ev=>decide (e.kind=3)) (Zce (ws.take q) key 0);have h2:=List.length_filter_le (λ e:Ev=>decide (e.key=key)&&decide (e.label=0)) (ws.take q);have h3:(ws.take q).length<=q:=by rw[ZV];omega
      unfold Zm;unfold Zce at h1 ⊢;omega
     have Bb:(Z0 (ws.take q) key 0).length<=1000:=by
      have h1:=List.length_filter_le (λ e:Ev => !decide (e.kind=3)) (Zce (ws.take q) key 0);have h2:=List.length_filter_le (λ e:Ev=>decide (e.key=key)&&decide (e.label=0)) (ws.take q);have h3:(ws.take q).length<=q:=by rw[ZV];omega
      unfold Z0;unfold Zce at h1 ⊢;omega
     obtain⟨a7,k7,rfl⟩:=Zs H7.out;obtain⟨a8,k8,rfl⟩:=Zs H8.out;obtain⟨a9,k9,rfl⟩:=Zs H9.out;have fk:=(ZW wr.heap.size wr).alloc (ZL _) (.cells (evArr e) 89);have cJ:=HK.out.alloc (.cells (evArr e) 89);have D2:=Ze H7.out fk;have D7:=Ze H8.out fk;have Ea:=Ze H9.out fk;have xX:=ZBn wr 89 (evArr e);obtain⟨iA,nW,cr,uQ,uR,rR,mS⟩:=ZH7 uL Ex cJ D2 D7 Ea xX;clear hs he uL Ex cJ D2 D7 Ea xX fk;by_cases ev:e.key=key
     ·have Ky:(e.key.toList != key.toList)=false:=by simp[ev]
      have Kz:(e.key.toList==key.toList)=true:=by simp[ev]
      by_cases gF:e.label=0
      ·have KA:((e.label:Int) != 0)=false:=by simp[gF]
       by_cases h3:e.kind=3
       ·have b3:((e.kind:Int)==3)=true:=by simp[h3]
        rw[if_pos (by simp[ev,gF,h3])] at iA;rw[if_neg (by simp[h3]),List.append_nil] at nW;clear ev gF h3;have gL:=Ze uQ.out ((ZW _ _).alloc (ZL _) (.cells #[.int .i64 (e.height:Int),.int .i64 (e.r:Int)] 299));have ta:=Ze uR.out ((ZW _ _).alloc (ZL _) (.cells #[.int .i64 (e.height:Int),.int .i64 (e.r:Int)] 299));have te:=Ze rR.out ((ZW _ _).alloc (ZL _) (.cells #[.int .i64 (e.height:Int),.int .i64 (e.r:Int)] 299));have dr:=cr.out.alloc (.cells #[.int .i64 (e.height:Int),.int .i64 (e.r:Int)] 299);have ol:=mS.out.alloc (.cells #[.int .i64 (e.height:Int),.int .i64 (e.r:Int)] 299);have fL:Reads ((wr.alloc (.cells (evArr e) 89)).alloc (.cells #[.int .i64 (e.height:Int),.int .i64 (e.r:Int)] 299)) _ 2 (some ⟨wr.heap.size+1,0,none⟩) 1 [.int .i64 (e.height:Int),.int .i64 (e.r:Int)]:=Reads.ao (Z6 wr _ _ _) rfl;have dQ:=dr.le;obtain⟨dt,si,uS,cZ,sx,iH⟩:=ZH6 gL ta te dr ol fL
        have iz:Hid (∀ u∈[Value.int .i64 (e.height:Int),.int .i64 (e.r:Int)],u.oneCell'=true):=ZH (λ u hu=>by
         simp at hu
         rcases hu with rfl | rfl <;> rfl)
        clear gL ta te dr ol fL
        go_wp2_with (first
         |(at_builtin
           refine Zc _ rfl (.tmp 36) (.tmp 42) _ rfl W.heap.size 299 s0 _ 2 16 underlying297 PQ PL PM PO rfl ZO (.slice a7 (Zm (ws.take q) key 0).length k7) (Zm (ws.take q) key 0).length (Zbk (Zm (ws.take q) key 0)) rfl dt.out (_) (some ⟨wr.heap.size+1,0,none⟩) 1 1 [.int .i64 (e.height:Int),.int .i64 (e.r:Int)] rfl (iH.out) (iz.out) ZF ZO dQ ?_;intro GT wx lQ mz Ax;obtain⟨ax,kx,rfl⟩:=Zs lQ;have Av:=Zbs si.out dt.out ZJ;have nM:=Zbs uS.out dt.out ZJ;have D8:=ZaX si.out mz Av;have Eb:=ZaX uS.out mz nM;have pF:=ZcP sx.out dt.out ZJ mz;have ef:Kept W.heap.size W wx:=⟨cZ.out.below.grown mz cZ.out.le (λ g hg=>(Zb dt.out hg).1),ZT cZ.out.le mz.size⟩;have D5:wx.ownsRow W.heap.size 299 2 (.slice ax ((Zm (ws.take q) key 0).length+1) kx) (Zm (ws.take (q+1)) key 0).length (Zbk (Zm (ws.take (q+1)) key 0)):=by
            have e1:Zbk (Zm (ws.take q) key 0++[e])=Zbk (Zm (ws.take q) key 0)++[.int .i64 (e.height:Int),.int .i64 (e.r:Int)]:=by simp[Zbk]
            rw[iA.out,e1,ZI];exact lQ
           obtain⟨x0,x1,x2,x3,x4,x5,x6,x7,x8,x9,eE,eG⟩:=pF.ae;have kJ:=pF.lt;obtain⟨I0,I1,I2,fi⟩:=ZH4 D5 D8 Eb ef;clear Av nM D8 Eb pF ef D5 lQ mz Ax;have lI:=(fi.out.alloc (.cells #[.string e.value] 9)).le;have Fx:=Ze I1.out ((ZW _ _).alloc (ZL _) (.cells #[.string e.value] 9));have mF:=ZH Fx;have pt:Hid (Reads (wx.alloc (.cells #[.string e.value] 9)) _ 1 (some ⟨wx.heap.size,0,none⟩) 1 [.string e.value]):=ZH (Reads.ao (ZBn wx 9 #[.string e.value]) rfl)
           have lc:Hid (∀ u∈[Value.string e.value],u.oneCell'=true):=ZH (λ u hu=>by
            simp at hu;subst hu
            rfl)
           clear Fx)
         |(at_builtin
           refine Zc _ rfl (.tmp 44) (.tmp 47) _ rfl W.heap.size 9 s1 _ 1 16 underlying63 Cs Cp Cq Cr rfl ZO (.slice a8 (Zm (ws.take q) key 0).length k8) (Zm (ws.take q) key 0).length (ZbA (Zm (ws.take q) key 0)) rfl mF.out (_) (some ⟨wx.heap.size,0,none⟩) 1 1 [.string e.value] rfl (pt.out) (lc.out) ZF ZO lI ?_;intro GT wy fP lF ls
           obtain⟨ay,ky,rfl⟩:=Zs fP))
        have gM:=Ze I0.out ((ZW wx.heap.size wx).alloc (ZL _) (.cells #[.string e.value] 9));have Ao:=Ze I2.out ((ZW wx.heap.size wx).alloc (ZL _) (.cells #[.string e.value] 9));have s9:=ZaX gM lF (Zbs gM mF.out ZJ);have tf:=ZaX Ao lF mP.out.symm;have m9:=ZeI mP.out Ao ls;have tc:wy.ownsRow W.heap.size 9 1 (.slice ay ((Zm (ws.take q) key 0).length+1) ky) (Zm (ws.take (q+1)) key 0).length (ZbA (Zm (ws.take (q+1)) key 0)):=by
         have e1:ZbA (Zm (ws.take q) key 0++[e])=ZbA (Zm (ws.take q) key 0)++[.string e.value]:=by simp[ZbA]
         rw[iA.out,e1,ZI];exact fP
        have lG:Kept W.heap.size W wy:=⟨(fi.out.alloc (.cells #[.string e.value] 9)).below.grown lF lI (λ g hg=>(Zb mF.out hg).1),ZT lI lF.size⟩;obtain⟨zi,zj,zk,pj,mf⟩:=ZH5 s9 tc tf m9 lG;clear gM Ao s9 tf m9 tc lG fP lF ls;go_wp2
        go_roundw
        case rel=>exact⟨q+1,ZO,ZN,zi,zj,by rw[nW.out];exact zk,pj,mf⟩
        case measure=>simp[intOf];omega
       ·have b3:((e.kind:Int)==3)=false:=ZP;rw[if_neg (by simp[h3]),List.append_nil] at iA;rw[if_pos (by simp[ev,gF,h3])] at nW;clear ev gF h3;have dQ:=(cr.out.alloc (.cells #[.string e.value] 9)).le;have dr:=cr.out.alloc (.cells #[.string e.value] 9);have gL:=Ze rR.out ((ZW _ _).alloc (ZL _) (.cells #[.string e.value] 9));have D4:=Ze uQ.out ((ZW _ _).alloc (ZL _) (.cells #[.string e.value] 9));have ta:=Ze uR.out ((ZW _ _).alloc (ZL _) (.cells #[.string e.value] 9));obtain⟨dt,Cu,si,cZ⟩:=ZH4 gL D4 ta dr;have pt:Hid (Reads ((wr.alloc (.cells (evArr e) 89)).alloc (.cells #[.string e.value] 9)) _ 1 (some ⟨wr.heap.size+1,0,none⟩) 1 [.string e.value]):=ZH (Reads.ao (Z6 wr _ _ _) rfl)
        have lc:Hid (∀ u∈[Value.string e.value],u.oneCell'=true):=ZH (λ u hu=>by
         simp at hu;subst hu
         rfl)
        clear gL D4 ta dr
        go_wp2_with (first
         |(at_builtin
           refine Zc _ rfl (.tmp 49) (.tmp 52) _ rfl W.heap.size 9 s1 _ 1 16 underlying63 Cs Cp Cq Cr rfl ZO (.slice a9 (Z0 (ws.take q) key 0).length k9) (Z0 (ws.take q) key 0).length (ZbA (Z0 (ws.take q) key 0)) rfl dt.out (_) (some ⟨wr.heap.size+1,0,none⟩) 1 1 [.string e.value] rfl (pt.out) (lc.out) ZF ZO dQ ?_;intro GT wy fP lF ls
           obtain⟨ay,ky,rfl⟩:=Zs fP))
        have s9:=ZaX Cu.out lF (Zbs Cu.out dt.out ZJ);have tc:=ZaX si.out lF mP.out;have m9:=(ZeI mP.out.symm si.out ls).symm;have tf:wy.ownsRow W.heap.size 9 1 (.slice ay ((Z0 (ws.take q) key 0).length+1) ky) (Z0 (ws.take (q+1)) key 0).length (ZbA (Z0 (ws.take (q+1)) key 0)):=by
         have e1:ZbA (Z0 (ws.take q) key 0++[e])=ZbA (Z0 (ws.take q) key 0)++[.string e.value]:=by simp[ZbA]
         rw[nW.out,e1,ZI];exact fP
        have lG:Kept W.heap.size W wy:=⟨cZ.out.below.grown lF cZ.out.le (λ g hg=>(Zb dt.out hg).1),ZT cZ.out.le lF.size⟩;obtain⟨zi,zj,zk,pj,mf⟩:=ZH5 s9 tc tf m9 lG;clear s9 tf m9 tc lG fP lF ls;go_wp2
        go_roundw
        case rel=>exact⟨q+1,ZO,ZN,by rw[iA.out];exact zi,by rw[iA.out];exact zj,zk,pj,mf⟩
        case measure=>simp[intOf];omega
      ·have KA:((e.label:Int) != 0)=true:=ZP;rw[if_neg (by simp[gF]),List.append_nil] at iA;rw[if_neg (by simp[gF]),List.append_nil] at nW;clear ev gF;go_wp2
       go_roundw
       case rel=>exact⟨q+1,ZO,ZN,by rw[iA.out];exact uQ,by rw[iA.out];exact uR,by rw[nW.out];exact rR,mP,cr⟩
       case measure=>simp[intOf];omega
     ·have Ky:(e.key.toList != key.toList)=true:=by simp[bne,ZbV,ev]
      have Kz:(e.key.toList==key.toList)=false:=by simp[ZbV,ev]
      rw[if_neg (by simp[ev]),List.append_nil] at iA;rw[if_neg (by simp[ev]),List.append_nil] at nW;clear ev;go_wp2
      go_roundw
      case rel=>exact⟨q+1,ZO,ZN,by rw[iA.out];exact uQ,by rw[iA.out];exact uR,by rw[nW.out];exact rR,mP,cr⟩
      case measure=>simp[intOf];omega
    ·obtain rfl:q=n:=ZO;have gh:ws.take q=ws:=ZU (by rw[fE.out];exact ZL _);rw[gh] at H7 H8 H9;obtain⟨a7,k7,rfl⟩:=Zs H7.out;obtain⟨a8,k8,rfl⟩:=Zs H8.out;obtain⟨a9,k9,rfl⟩:=Zs H9.out;have Fv:(Zm ws key 0).length<=100:=by
      have h1:=List.length_filter_le (λ e:Ev=>decide (e.kind=3)) (Zce ws key 0);have h2:=List.length_filter_le (λ e:Ev=>decide (e.key=key)&&decide (e.label=0)) ws;have h3:=fE.out;unfold Zm;unfold Zce at h1 ⊢;omega
     have Bb:(Z0 ws key 0).length<=100:=by
      have h1:=List.length_filter_le (λ e:Ev => !decide (e.kind=3)) (Zce ws key 0);have h2:=List.length_filter_le (λ e:Ev=>decide (e.key=key)&&decide (e.label=0)) ws;have h3:=fE.out;unfold Z0;unfold Zce at h1 ⊢;omega
     have Db:=ZH Bb;have Eg:Blk wr (w.heap.size+1) 66 #[.string key,.bool false,.bool false,.string ⟨#[]⟩,.string ⟨#[]⟩,v0,v1]:=xv.out.below HK.out.below xv.out.lt;have oL:Past W.heap.size (w.heap.size+1) W wr:=Past.bd HK.out HK.out.le;obtain⟨l9,mV,sj⟩:=ZH3 Eg oL H9.out;clear Eg oL Bb;have fp:Zhy ws key 0=Za1 (ZaS ((Z0 ws key 0).map (·.value))):=rfl;have Kd:=ZH fp;clear fp;by_cases h0:Zm ws key 0=[];focus
      have lJ:(Zm ws key 0).length=0:=by rw[h0];rfl
      have yq:decide ((0:Int)<((Zm ws key 0).length:Int))=false:=by simp[lJ]
      have AU:decide (0<(Zm ws key 0).length)=false:=by simp[lJ]
      have tH:ZdD ws key 0=false:=by simp[ZdD,lJ]
      have o5:Zck ws key 0=⟨#[]⟩:=ZgW h0;obtain⟨CP,qe⟩:=ZH2 tH o5;clear h0 lJ tH o5
     rotate_left
     focus
      have eL:0<(Zm ws key 0).length:=List.length_pos_iff.2 h0;have yq:decide ((0:Int)<((Zm ws key 0).length:Int))=true:=ZP;have AU:decide (0<(Zm ws key 0).length)=true:=by simp[eL]
      have tH:ZdD ws key 0=true:=by simp[ZdD,eL]
      obtain⟨m0,m1,m2,m3,m4,m5,m6⟩:=l9.out.seven;have B8:=l9.out.frozen 1;have mL:=l9.out.lt;have D1:=Zcm (i:=1) (u := .bool true) H7.out l9.out ZJ;have D6:=Zcm (i:=1) (u := .bool true) H8.out l9.out ZJ;have D9:=Zcm (i:=1) (u := .bool true) H9.out l9.out ZJ;have bS:=l9.out.ai 1 (.bool true);have jT:=mV.out.set 1 (.bool true);obtain⟨g7,rfl,ed⟩:=Zjb D1 eL;obtain⟨g8,rfl,tF,EL⟩:=Zby D6 eL;have fO:=Zj4 g7 0 (Zm ws key 0).length k7 _ _ eL Fv ed;obtain⟨sE,cL,j7,xq,zr,CP,zz⟩:=ZH7 fO bS jT D9 EL tH tF;clear h0 D1 D6 D9 bS jT ed fO EL tH tF l9 mV sj;go_wp2_with fail;refine sE.out.mono ?_;rintro _ w4 ⟨ki,rfl,nQ,cz⟩;have wF:ki<(Zm ws key 0).length:=by have:=nQ.1;simpa [ZdJ] using this
      obtain⟨x,hx⟩:∃ x,(Zm ws key 0)[ki]? = some x:=⟨_,ZX wF⟩;have o5:Zck ws key 0=x.value:=by simp[Zck,nQ.eq,hx]
      have OT:w4.cell? ⟨g8,ki,none⟩=some (.string x.value):=by
       rw[cz.cell (p:=⟨g8,ki,none⟩) zz.out,zr.out ki (by simp[ZbA];exact wF)];simp[ZbA,hx]
      have Lz:g8<w4.heap.size:=ZR zz.out cz.size;have lw:=cL.out.ob cz;have tT:=j7.out.below cz (by have:=j7.out.size;omega);have te:=Ze xq.out cz;have sb:=lw.frozen 3;have wI:=lw.lt;have jC:(ki:Int)<((Zm ws key 0).length:Int):=ZO;have SM:(0:Int)<=(ki:Int):=ZO;obtain⟨m0,m1,m2,m3,m4,m5,m6⟩:=Blk.seven lw;obtain⟨qe,fK,sL,uS⟩:=ZH4 o5 lw tT te;clear nQ hx o5 cz lw tT te cL j7 xq;go_wp2_with fail;obtain⟨l9,mV,sj⟩:=ZH3 (fK.out.ai 3 (.string x.value)) (sL.out.set 3 (.string x.value)) (Zcm (i:=3) (u := .string x.value) uS.out fK.out ZJ);generalize (w4.setCell ⟨w.heap.size+1,3,none⟩ (.string x.value))=w5 at *
     rotate_left
     all_goals
      have uM:=Zm9 (Z0 ws key 0);have eD:(Z0 ws key 0).length=((Z0 ws key 0).map (·.value)).length:=ZM;have Ap:=sj.out;rw[uM,eD] at Ap;have iF:=Zip Ap (by rw[←eD];have:=Db.out;omega);rw[←eD] at iF;have n9:=ZH iF;clear uM Ap iF eD;go_wp2_with fail;refine n9.out.mono ?_;rintro _ w6 ⟨rfl,rM,mK⟩;have qo:=Zfv rM (by rw[Zb7];simp;have:=Db.out;omega);have qP:=ZH qo;have eu:=ZcP l9.out sj.out ZJ mK;have nT:=mV.out.grown mK (by have:=mV.out.size;omega) (λ g hg=>(Zb sj.out hg).1);obtain⟨i7,rV,mG⟩:=ZH3 eu nT rM;clear qo eu nT rM mK;go_wp2_with fail;refine qP.out.mono ?_;rintro _ w8 ⟨xo,rfl,ko,uF,_⟩;have fS:=ZcP i7.out mG.out ZJ uF;have Fz:=rV.out.grown uF (by have:=rV.out.size;omega) (λ g hg=>(Zb mG.out hg).1);obtain⟨m0,m1,m2,m3,m4,m5,m6⟩:=fS.seven;have AN:=fS.frozen 5;have Pd:=fS.lt;obtain⟨qL,zJ,mj⟩:=ZH3 fS Fz ko;clear fS Fz ko uF;obtain⟨rk,xm,rfl⟩:=Zs mj.out;go_wp2_with fail;have ED:=qL.out.ai 5 (.slice rk (Za1 (ZaS ((Z0 ws key 0).map (·.value)))).length xm);have FA:=zJ.out.set 5 (.slice rk (Za1 (ZaS ((Z0 ws key 0).map (·.value)))).length xm);have FQ:=Zcm (i:=5) (u := .slice rk (Za1 (ZaS ((Z0 ws key 0).map (·.value)))).length xm) mj.out qL.out ZJ;obtain⟨uX,zK,jm⟩:=ZH3 ED FA FQ;clear ED FA FQ;generalize (w8.setCell ⟨w.heap.size+1,5,none⟩ (.slice rk (Za1 (ZaS ((Z0 ws key 0).map (·.value)))).length xm))=wE at *;go_wp2
      go_roundw
      case rel =>
       refine⟨1,_,_,.inr (.inl ⟨rfl,ZN⟩),ZH (by have:=uX.out;simp only[Zbb,CP.out,qe.out];exact this),ZH (zK.out.blk xL.out (ZL _) ZO),ZH (Zi jm.out xB.out.le),ZH (zK.out.row xS.out (ZL _) xv.out ZJ),ZH (zK.out.kept xB.out xB.out.le ZO)⟩
      case measure=>simp[intOf]
  ·go_wp2_with fail;go_loopw [7,8,9,19] (λ v7 v8 v9 i wr=>∃ q:Nat,q<=n/\i = .int .i64 q/\Hid (wr.ownsRow W.heap.size 299 2 v7 (Zm (ws.take q) key 1).length (Zbk (Zm (ws.take q) key 1)))/\Hid (wr.ownsRow W.heap.size 9 1 v8 (Zm (ws.take q) key 1).length (ZbA (Zm (ws.take q) key 1)))/\Hid (wr.ownsRow W.heap.size 9 1 v9 (Z0 (ws.take q) key 1).length (ZbA (Z0 (ws.take q) key 1)))/\Hid (Apart v8 v9)/\Hid (Kept W.heap.size W wr)) (λ _ _ _ i _=>n-(intOf i).toNat)
   case atStart=>exact⟨0,Nat.zero_le _,rfl,ZH ⟨rfl,.inl ⟨rfl,rfl⟩⟩,ZH ⟨rfl,.inl ⟨rfl,rfl⟩⟩,ZH ⟨rfl,.inl ⟨rfl,rfl⟩⟩,ZH (ZgO _ _ _),ZH (ZKr W)⟩
   case round =>
    obtain⟨q,hq,rfl,H7,H8,H9,mP,HK⟩:=hrel;by_cases dy:q<n
    ·obtain⟨e,he⟩:∃ e,ws[q]? = some e:=⟨_,ZX (by rw[fE.out];exact dy)⟩;have hs:=HW.out.of_same (w':=wr) (λ ad _ hl=>HK.out.below.block _ hl) HK.out.le;obtain⟨bk,off,rfl,cQ,c0,c1,c2,c3,c4,c5,c6,c7,c8,c9,cP,cR⟩:=hs.at_ he;have uL:Zm (ws.take (q+1)) key 1=Zm (ws.take q) key 1++if (decide (e.key=key)&&decide (e.label=1)&&decide (e.kind=3))=true then [e] else []:=by
      rw[Zag he];simp only[Zm,Zce,List.filter_append,List.filter_cons,List.filter_nil];by_cases h1:e.key=key <;> by_cases h2:e.label=1 <;> by_cases h3:e.kind=3 <;> simp[h1,h2,h3]
     have Ex:Z0 (ws.take (q+1)) key 1=Z0 (ws.take q) key 1++if (decide (e.key=key)&&decide (e.label=1) && !decide (e.kind=3))=true then [e] else []:=by
      rw[Zag he];simp only[Z0,Zce,List.filter_append,List.filter_cons,List.filter_nil];by_cases h1:e.key=key <;> by_cases h2:e.label=1 <;> by_cases h3:e.kind=3 <;> simp[h1,h2,h3]
     have Fv:(Zm (ws.take q) key 1).length<=1000:=by
      have h1:=List.length_filter_le (λ e:Ev=>decide (e.kind=3)) (Zce (ws.take q) key 1);have h2:=List.length_filter_le (λ e:Ev=>decide (e.key=key)&&decide (e.label=1)) (ws.take q);have h3:(ws.take q).length<=q:=by rw[ZV];omega
      unfold Zm;unfold Zce at h1 ⊢;omega
     have Bb:(Z0 (ws.take q) key 1).length<=1000:=by
      have h1:=List.length_filter_le (λ e:Ev => !decide (e.kind=3)) (Zce (ws.take q) key 1);have h2:=List.length_filter_le (λ e:Ev=>decide (e.key=key)&&decide (e.label=1)) (ws.take q);have h3:(ws.take q).length<=q:=by rw[ZV];omega
      unfold Z0;unfold Zce at h1 ⊢;omega
     obtain⟨a7,k7,rfl⟩:=Zs H7.out;obtain⟨a8,k8,rfl⟩:=Zs H8.out;obtain⟨a9,k9,rfl⟩:=Zs H9.out;have fk:=(ZW wr.heap.size wr).alloc (ZL _) (.cells (evArr e) 89);have cJ:=HK.out.alloc (.cells (evArr e) 89);have D2:=Ze H7.out fk;have D7:=Ze H8.out fk;have Ea:=Ze H9.out fk;have xX:=ZBn wr 89 (evArr e);obtain⟨iA,nW,cr,uQ,uR,rR,mS⟩:=ZH7 uL Ex cJ D2 D7 Ea xX;clear hs he uL Ex cJ D2 D7 Ea xX fk;by_cases ev:e.key=key
     ·have Ky:(e.key.toList != key.toList)=false:=by simp[ev]
      have Kz:(e.key.toList==key.toList)=true:=by simp[ev]
      by_cases gF:e.label=1
      ·have KA:((e.label:Int) != 1)=false:=by simp[gF]
       by_cases h3:e.kind=3
       ·have b3:((e.kind:Int)==3)=true:=by simp[h3]
        rw[if_pos (by simp[ev,gF,h3])] at iA;rw[if_neg (by simp[h3]),List.append_nil] at nW;clear ev gF h3;have gL:=Ze uQ.out ((ZW _ _).alloc (ZL _) (.cells #[.int .i64 (e.height:Int),.int .i64 (e.r:Int)] 299));have ta:=Ze uR.out ((ZW _ _).alloc (ZL _) (.cells #[.int .i64 (e.height:Int),.int .i64 (e.r:Int)] 299));have te:=Ze rR.out ((ZW _ _).alloc (ZL _) (.cells #[.int .i64 (e.height:Int),.int .i64 (e.r:Int)] 299));have dr:=cr.out.alloc (.cells #[.int .i64 (e.height:Int),.int .i64 (e.r:Int)] 299);have ol:=mS.out.alloc (.cells #[.int .i64 (e.height:Int),.int .i64 (e.r:Int)] 299);have fL:Reads ((wr.alloc (.cells (evArr e) 89)).alloc (.cells #[.int .i64 (e.height:Int),.int .i64 (e.r:Int)] 299)) _ 2 (some ⟨wr.heap.size+1,0,none⟩) 1 [.int .i64 (e.height:Int),.int .i64 (e.r:Int)]:=Reads.ao (Z6 wr _ _ _) rfl;have dQ:=dr.le;obtain⟨dt,si,uS,cZ,sx,iH⟩:=ZH6 gL ta te dr ol fL
        have iz:Hid (∀ u∈[Value.int .i64 (e.height:Int),.int .i64 (e.r:Int)],u.oneCell'=true):=ZH (λ u hu=>by
         simp at hu
         rcases hu with rfl | rfl <;> rfl)
        clear gL ta te dr ol fL
        go_wp2_with (first
         |(at_builtin
           refine Zc _ rfl (.tmp 36) (.tmp 42) _ rfl W.heap.size 299 s0 _ 2 16 underlying297 PQ PL PM PO rfl ZO (.slice a7 (Zm (ws.take q) key 1).length k7) (Zm (ws.take q) key 1).length (Zbk (Zm (ws.take q) key 1)) rfl dt.out (_) (some ⟨wr.heap.size+1,0,none⟩) 1 1 [.int .i64 (e.height:Int),.int .i64 (e.r:Int)] rfl (iH.out) (iz.out) ZF ZO dQ ?_;intro GT wx lQ mz Ax;obtain⟨ax,kx,rfl⟩:=Zs lQ;have Av:=Zbs si.out dt.out ZJ;have nM:=Zbs uS.out dt.out ZJ;have D8:=ZaX si.out mz Av;have Eb:=ZaX uS.out mz nM;have pF:=ZcP sx.out dt.out ZJ mz;have ef:Kept W.heap.size W wx:=⟨cZ.out.below.grown mz cZ.out.le (λ g hg=>(Zb dt.out hg).1),ZT cZ.out.le mz.size⟩;have D5:wx.ownsRow W.heap.size 299 2 (.slice ax ((Zm (ws.take q) key 1).length+1) kx) (Zm (ws.take (q+1)) key 1).length (Zbk (Zm (ws.take (q+1)) key 1)):=by
            have e1:Zbk (Zm (ws.take q) key 1++[e])=Zbk (Zm (ws.take q) key 1)++[.int .i64 (e.height:Int),.int .i64 (e.r:Int)]:=by simp[Zbk]
            rw[iA.out,e1,ZI];exact lQ
           obtain⟨x0,x1,x2,x3,x4,x5,x6,x7,x8,x9,eE,eG⟩:=pF.ae;have kJ:=pF.lt;obtain⟨I0,I1,I2,fi⟩:=ZH4 D5 D8 Eb ef;clear Av nM D8 Eb pF ef D5 lQ mz Ax;have lI:=(fi.out.alloc (.cells #[.string e.value] 9)).le;have Fx:=Ze I1.out ((ZW _ _).alloc (ZL _) (.cells #[.string e.value] 9));have mF:=ZH Fx;have pt:Hid (Reads (wx.alloc (.cells #[.string e.value] 9)) _ 1 (some ⟨wx.heap.size,0,none⟩) 1 [.string e.value]):=ZH (Reads.ao (ZBn wx 9 #[.string e.value]) rfl)
           have lc:Hid (∀ u∈[Value.string e.value],u.oneCell'=true):=ZH (λ u hu=>by
            simp at hu;subst hu
            rfl)
           clear Fx)
         |(at_builtin
           refine Zc _ rfl (.tmp 44) (.tmp 47) _ rfl W.heap.size 9 s1 _ 1 16 underlying63 Cs Cp Cq Cr rfl ZO (.slice a8 (Zm (ws.take q) key 1).length k8) (Zm (ws.take q) key 1).length (ZbA (Zm (ws.take q) key 1)) rfl mF.out (_) (some ⟨wx.heap.size,0,none⟩) 1 1 [.string e.value] rfl (pt.out) (lc.out) ZF ZO lI ?_;intro GT wy fP lF ls
           obtain⟨ay,ky,rfl⟩:=Zs fP))
        have gM:=Ze I0.out ((ZW wx.heap.size wx).alloc (ZL _) (.cells #[.string e.value] 9));have Ao:=Ze I2.out ((ZW wx.heap.size wx).alloc (ZL _) (.cells #[.string e.value] 9));have s9:=ZaX gM lF (Zbs gM mF.out ZJ);have tf:=ZaX Ao lF mP.out.symm;have m9:=ZeI mP.out Ao ls;have tc:wy.ownsRow W.heap.size 9 1 (.slice ay ((Zm (ws.take q) key 1).length+1) ky) (Zm (ws.take (q+1)) key 1).length (ZbA (Zm (ws.take (q+1)) key 1)):=by
         have e1:ZbA (Zm (ws.take q) key 1++[e])=ZbA (Zm (ws.take q) key 1)++[.string e.value]:=by simp[ZbA]
         rw[iA.out,e1,ZI];exact fP
        have lG:Kept W.heap.size W wy:=⟨(fi.out.alloc (.cells #[.string e.value] 9)).below.grown lF lI (λ g hg=>(Zb mF.out hg).1),ZT lI lF.size⟩;obtain⟨zi,zj,zk,pj,mf⟩:=ZH5 s9 tc tf m9 lG;clear gM Ao s9 tf m9 tc lG fP lF ls;go_wp2
        go_roundw
        case rel=>exact⟨q+1,ZO,ZN,zi,zj,by rw[nW.out];exact zk,pj,mf⟩
        case measure=>simp[intOf];omega
       ·have b3:((e.kind:Int)==3)=false:=ZP;rw[if_neg (by simp[h3]),List.append_nil] at iA;rw[if_pos (by simp[ev,gF,h3])] at nW;clear ev gF h3;have dQ:=(cr.out.alloc (.cells #[.string e.value] 9)).le;have dr:=cr.out.alloc (.cells #[.string e.value] 9);have gL:=Ze rR.out ((ZW _ _).alloc (ZL _) (.cells #[.string e.value] 9));have D4:=Ze uQ.out ((ZW _ _).alloc (ZL _) (.cells #[.string e.value] 9));have ta:=Ze uR.out ((ZW _ _).alloc (ZL _) (.cells #[.string e.value] 9));obtain⟨dt,Cu,si,cZ⟩:=ZH4 gL D4 ta dr;have pt:Hid (Reads ((wr.alloc (.cells (evArr e) 89)).alloc (.cells #[.string e.value] 9)) _ 1 (some ⟨wr.heap.size+1,0,none⟩) 1 [.string e.value]):=ZH (Reads.ao (Z6 wr _ _ _) rfl)
        have lc:Hid (∀ u∈[Value.string e.value],u.oneCell'=true):=ZH (λ u hu=>by
         simp at hu;subst hu
         rfl)
        clear gL D4 ta dr
        go_wp2_with (first
         |(at_builtin
           refine Zc _ rfl (.tmp 49) (.tmp 52) _ rfl W.heap.size 9 s1 _ 1 16 underlying63 Cs Cp Cq Cr rfl ZO (.slice a9 (Z0 (ws.take q) key 1).length k9) (Z0 (ws.take q) key 1).length (ZbA (Z0 (ws.take q) key 1)) rfl dt.out (_) (some ⟨wr.heap.size+1,0,none⟩) 1 1 [.string e.value] rfl (pt.out) (lc.out) ZF ZO dQ ?_;intro GT wy fP lF ls
           obtain⟨ay,ky,rfl⟩:=Zs fP))
        have s9:=ZaX Cu.out lF (Zbs Cu.out dt.out ZJ);have tc:=ZaX si.out lF mP.out;have m9:=(ZeI mP.out.symm si.out ls).symm;have tf:wy.ownsRow W.heap.size 9 1 (.slice ay ((Z0 (ws.take q) key 1).length+1) ky) (Z0 (ws.take (q+1)) key 1).length (ZbA (Z0 (ws.take (q+1)) key 1)):=by
         have e1:ZbA (Z0 (ws.take q) key 1++[e])=ZbA (Z0 (ws.take q) key 1)++[.string e.value]:=by simp[ZbA]
         rw[nW.out,e1,ZI];exact fP
        have lG:Kept W.heap.size W wy:=⟨cZ.out.below.grown lF cZ.out.le (λ g hg=>(Zb dt.out hg).1),ZT cZ.out.le lF.size⟩;obtain⟨zi,zj,zk,pj,mf⟩:=ZH5 s9 tc tf m9 lG;clear s9 tf m9 tc lG fP lF ls;go_wp2
        go_roundw
        case rel=>exact⟨q+1,ZO,ZN,by rw[iA.out];exact zi,by rw[iA.out];exact zj,zk,pj,mf⟩
        case measure=>simp[intOf];omega
      ·have KA:((e.label:Int) != 1)=true:=ZP;rw[if_neg (by simp[gF]),List.append_nil] at iA;rw[if_neg (by simp[gF]),List.append_nil] at nW;clear ev gF;go_wp2
       go_roundw
       case rel=>exact⟨q+1,ZO,ZN,by rw[iA.out];exact uQ,by rw[iA.out];exact uR,by rw[nW.out];exact rR,mP,cr⟩
       case measure=>simp[intOf];omega
     ·have Ky:(e.key.toList != key.toList)=true:=by simp[bne,ZbV,ev]
      have Kz:(e.key.toList==key.toList)=false:=by simp[ZbV,ev]
      rw[if_neg (by simp[ev]),List.append_nil] at iA;rw[if_neg (by simp[ev]),List.append_nil] at nW;clear ev;go_wp2
      go_roundw
      case rel=>exact⟨q+1,ZO,ZN,by rw[iA.out];exact uQ,by rw[iA.out];exact uR,by rw[nW.out];exact rR,mP,cr⟩
      case measure=>simp[intOf];omega
    ·obtain rfl:q=n:=ZO;have gh:ws.take q=ws:=ZU (by rw[fE.out];exact ZL _);rw[gh] at H7 H8 H9;obtain⟨a7,k7,rfl⟩:=Zs H7.out;obtain⟨a8,k8,rfl⟩:=Zs H8.out;obtain⟨a9,k9,rfl⟩:=Zs H9.out;have Fv:(Zm ws key 1).length<=100:=by
      have h1:=List.length_filter_le (λ e:Ev=>decide (e.kind=3)) (Zce ws key 1);have h2:=List.length_filter_le (λ e:Ev=>decide (e.key=key)&&decide (e.label=1)) ws;have h3:=fE.out;unfold Zm;unfold Zce at h1 ⊢;omega
     have Bb:(Z0 ws key 1).length<=100:=by
      have h1:=List.length_filter_le (λ e:Ev => !decide (e.kind=3)) (Zce ws key 1);have h2:=List.length_filter_le (λ e:Ev=>decide (e.key=key)&&decide (e.label=1)) ws;have h3:=fE.out;unfold Z0;unfold Zce at h1 ⊢;omega
     have Db:=ZH Bb;have Eg:Blk wr (w.heap.size+1) 66 #[.string key,.bool (ZdD ws key 0),.bool false,.string (Zck ws key 0),.string ⟨#[]⟩,v0,v1]:=xv.out.below HK.out.below xv.out.lt;have oL:Past W.heap.size (w.heap.size+1) W wr:=Past.bd HK.out HK.out.le;obtain⟨l9,mV,sj⟩:=ZH3 Eg oL H9.out;clear Eg oL Bb;have fp:Zhy ws key 1=Za1 (ZaS ((Z0 ws key 1).map (·.value))):=rfl;have Kd:=ZH fp;clear fp;by_cases h0:Zm ws key 1=[];focus
      have lJ:(Zm ws key 1).length=0:=by rw[h0];rfl
      have yq:decide ((0:Int)<((Zm ws key 1).length:Int))=false:=by simp[lJ]
      have AU:decide (0<(Zm ws key 1).length)=false:=by simp[lJ]
      have tH:ZdD ws key 1=false:=by simp[ZdD,lJ]
      have o5:Zck ws key 1=⟨#[]⟩:=ZgW h0;obtain⟨CP,qe⟩:=ZH2 tH o5;clear h0 lJ tH o5
     rotate_left
     focus
      have eL:0<(Zm ws key 1).length:=List.length_pos_iff.2 h0;have yq:decide ((0:Int)<((Zm ws key 1).length:Int))=true:=ZP;have AU:decide (0<(Zm ws key 1).length)=true:=by simp[eL]
      have tH:ZdD ws key 1=true:=by simp[ZdD,eL]
      obtain⟨m0,m1,m2,m3,m4,m5,m6⟩:=l9.out.seven;have B8:=l9.out.frozen 2;have mL:=l9.out.lt;have D1:=Zcm (i:=2) (u := .bool true) H7.out l9.out ZJ;have D6:=Zcm (i:=2) (u := .bool true) H8.out l9.out ZJ;have D9:=Zcm (i:=2) (u := .bool true) H9.out l9.out ZJ;have bS:=l9.out.ai 2 (.bool true);have jT:=mV.out.set 2 (.bool true);obtain⟨g7,rfl,ed⟩:=Zjb D1 eL;obtain⟨g8,rfl,tF,EL⟩:=Zby D6 eL;have fO:=Zj4 g7 0 (Zm ws key 1).length k7 _ _ eL Fv ed;obtain⟨sE,cL,j7,xq,zr,CP,zz⟩:=ZH7 fO bS jT D9 EL tH tF;clear h0 D1 D6 D9 bS jT ed fO EL tH tF l9 mV sj;go_wp2_with fail;refine sE.out.mono ?_;rintro _ w4 ⟨ki,rfl,nQ,cz⟩;have wF:ki<(Zm ws key 1).length:=by have:=nQ.1;simpa [ZdJ] using this
      obtain⟨x,hx⟩:∃ x,(Zm ws key 1)[ki]? = some x:=⟨_,ZX wF⟩;have o5:Zck ws key 1=x.value:=by simp[Zck,nQ.eq,hx]
      have OT:w4.cell? ⟨g8,ki,none⟩=some (.string x.value):=by
       rw[cz.cell (p:=⟨g8,ki,none⟩) zz.out,zr.out ki (by simp[ZbA];exact wF)];simp[ZbA,hx]
      have Lz:g8<w4.heap.size:=ZR zz.out cz.size;have lw:=cL.out.ob cz;have tT:=j7.out.below cz (by have:=j7.out.size;omega);have te:=Ze xq.out cz;have sb:=lw.frozen 4;have wI:=lw.lt;have jC:(ki:Int)<((Zm ws key 1).length:Int):=ZO;have SM:(0:Int)<=(ki:Int):=ZO;obtain⟨m0,m1,m2,m3,m4,m5,m6⟩:=Blk.seven lw;obtain⟨qe,fK,sL,uS⟩:=ZH4 o5 lw tT te;clear nQ hx o5 cz lw tT te cL j7 xq;go_wp2_with fail;obtain⟨l9,mV,sj⟩:=ZH3 (fK.out.ai 4 (.string x.value)) (sL.out.set 4 (.string x.value)) (Zcm (i:=4) (u := .string x.value) uS.out fK.out ZJ);generalize (w4.setCell ⟨w.heap.size+1,4,none⟩ (.string x.value))=w5 at *
     rotate_left
     all_goals
      have uM:=Zm9 (Z0 ws key 1);have eD:(Z0 ws key 1).length=((Z0 ws key 1).map (·.value)).length:=ZM;have Ap:=sj.out;rw[uM,eD] at Ap;have iF:=Zip Ap (by rw[←eD];have:=Db.out;omega);rw[←eD] at iF;have n9:=ZH iF;clear uM Ap iF eD;go_wp2_with fail;refine n9.out.mono ?_;rintro _ w6 ⟨rfl,rM,mK⟩;have qo:=Zfv rM (by rw[Zb7];simp;have:=Db.out;omega);have qP:=ZH qo;have eu:=ZcP l9.out sj.out ZJ mK;have nT:=mV.out.grown mK (by have:=mV.out.size;omega) (λ g hg=>(Zb sj.out hg).1);obtain⟨i7,rV,mG⟩:=ZH3 eu nT rM;clear qo eu nT rM mK;go_wp2_with fail;refine qP.out.mono ?_;rintro _ w8 ⟨xo,rfl,ko,uF,_⟩;have fS:=ZcP i7.out mG.out ZJ uF;have Fz:=rV.out.grown uF (by have:=rV.out.size;omega) (λ g hg=>(Zb mG.out hg).1);obtain⟨m0,m1,m2,m3,m4,m5,m6⟩:=fS.seven;have AN:=fS.frozen 6;have Pd:=fS.lt;obtain⟨qL,zJ,mj⟩:=ZH3 fS Fz ko;clear fS Fz ko uF;obtain⟨rk,xm,rfl⟩:=Zs mj.out;go_wp2_with fail;have ED:=qL.out.ai 6 (.slice rk (Za1 (ZaS ((Z0 ws key 1).map (·.value)))).length xm);have FA:=zJ.out.set 6 (.slice rk (Za1 (ZaS ((Z0 ws key 1).map (·.value)))).length xm);have FQ:=Zcm (i:=6) (u := .slice rk (Za1 (ZaS ((Z0 ws key 1).map (·.value)))).length xm) mj.out qL.out ZJ;obtain⟨uX,zK,jm⟩:=ZH3 ED FA FQ;clear ED FA FQ;generalize (w8.setCell ⟨w.heap.size+1,6,none⟩ (.slice rk (Za1 (ZaS ((Z0 ws key 1).map (·.value)))).length xm))=wE at *;go_wp2
      go_roundw
      case rel =>
       refine⟨2,_,_,.inr (.inr ⟨rfl,ZN⟩),ZH (by have:=uX.out;simp only[Zbb,Zbd,CP.out,qe.out];exact this),ZH (zK.out.blk xL.out (ZL _) ZO),ZH (zK.out.row xR.out (ZL _) xv.out ZJ),ZH (Zi jm.out xB.out.le),ZH (zK.out.kept xB.out xB.out.le ZO)⟩
      case measure=>simp[intOf]
  ·obtain⟨a0,k0,rfl⟩:=Zs xR.out;obtain⟨a1,k1,rfl⟩:=Zs xS.out;obtain⟨m0,m1,m2,m3,m4,m5,m6⟩:=(show Blk W (w.heap.size+1) 66 (Za3 (Zbd key ws) _ _) from xv.out).seven;have LR:=xv.out.lt;have hlp:=xL.out.lt;have fo:=xL.out.frozen;have f0:=fo 0;have f1:=fo 1;have f2:=fo 2;have f3:=fo 3;have f4:=fo 4;have f5:=fo 5;have f6:=fo 6;obtain⟨p0,p1,p2,p3,p4,p5,p6⟩:=xL.out.seven;clear fo;go_wp2_with fail;have dx:=Zaw (vs:=Za3 (Zbd key ws) (.slice a0 (Zbb key ws 2).s0.length k0) (.slice a1 (Zbb key ws 2).s1.length k1)) xL.out rfl;have rB:=ZaB xB.out (g:=w.heap.size) (ZL _) 0 (Za3 (Zbd key ws) (.slice a0 (Zbb key ws 2).s0.length k0) (.slice a1 (Zbb key ws 2).s1.length k1)).toList;have nU:=ZhY xR.out (g:=w.heap.size) (λ h=>Zo xR.out xL.out ZJ h) 0 (Za3 (Zbd key ws) (.slice a0 (Zbb key ws 2).s0.length k0) (.slice a1 (Zbb key ws 2).s1.length k1)).toList;have eh:=ZhY xS.out (g:=w.heap.size) (λ h=>Zo xS.out xL.out ZJ h) 0 (Za3 (Zbd key ws) (.slice a0 (Zbb key ws 2).s0.length k0) (.slice a1 (Zbb key ws 2).s1.length k1)).toList;refine bodyPost_end (w:=setAll W w.heap.size 0 (Za3 (Zbd key ws) (.slice a0 (Zbb key ws 2).s0.length k0) (.slice a1 (Zbb key ws 2).s1.length k1)).toList) (Zac rfl rfl (run_loadVar_row _ _ _ _ _ _ _ dx underlying66 rfl ZK)) rfl ?_;exact⟨_,_,rfl,nU,eh,rB.below⟩
section
theorem Zo5:(prog.info? 66).map (λ i=>(i.zero,i.size,i.bytes))=some (some (.agg (Za3 ⟨⟨#[]⟩,false,false,⟨#[]⟩,⟨#[]⟩,[],[]⟩ (.slice none 0 0) (.slice none 0 0))),7,104):=ZK
def conCells(ps:List (Con × Value × Value)):List Value:=ps.flatMap λ p=>(Za3 p.1 p.2.1 p.2.2).toList
structure ConRows(B:Nat)(w:World)(v:Value)(ps:List (Con × Value × Value)):Prop where
 row:w.ownsRow B 66 7 v ps.length (conCells ps)
 s0:∀ p∈ps,w.ownsRow B 9 1 p.2.1 p.1.s0.length (p.1.s0.map Value.string)
 s1:∀ p∈ps,w.ownsRow B 9 1 p.2.2 p.1.s1.length (p.1.s1.map Value.string)
section
variable {B:Nat}{w w':World}{v v7:Value}{ps qs:List (Con × Value × Value)}
theorem ConRows.nil(B:Nat)(w:World):ConRows B w (.slice none 0 0) []:=⟨⟨rfl,.inl ⟨rfl,rfl⟩⟩,λ p h=>by simp at h,λ p h=>by simp at h⟩
theorem ConRows.below(h:ConRows B w v ps)(hb:Below w.heap.size w w'):ConRows B w' v ps:=⟨Ze h.row hb,λ p hp=>Ze (h.s0 p hp) hb,λ p hp=>Ze (h.s1 p hp) hb⟩
theorem ConRows.mono{B':Nat}(h:ConRows B w v ps)(hB:B'<=B):ConRows B' w v ps:=⟨Zi h.row hB,λ p hp=>Zi (h.s0 p hp) hB,λ p hp=>Zi (h.s1 p hp) hB⟩
theorem ZiB(a b:List (Con × Value × Value)):conCells (a++b)=conCells a++conCells b:=by simp[conCells]
theorem ConRows.push(h:ConRows B w v ps)(hg:w.grownBy w' v.ownBlock)(hr:w'.ownsRow B 66 7 v7 (ps.length+qs.length) (conCells ps++conCells qs))(h0:∀ p∈qs,w.ownsRow B 9 1 p.2.1 p.1.s0.length (p.1.s0.map Value.string))(h1:∀ p∈qs,w.ownsRow B 9 1 p.2.2 p.1.s1.length (p.1.s1.map Value.string)):ConRows B w' v7 (ps++qs):=by
 refine⟨by rw[ZiB,ZI];exact hr,λ p hp=>?_,λ p hp=>?_⟩
 ·rcases List.mem_append.1 hp with hp | hp
  ·exact ZaX (h.s0 p hp) hg (Zbs (h.s0 p hp) h.row ZJ)
  ·exact ZaX (h0 p hp) hg (Zbs (h0 p hp) h.row ZJ)
 ·rcases List.mem_append.1 hp with hp | hp
  ·exact ZaX (h.s1 p hp) hg (Zbs (h.s1 p hp) h.row ZJ)
  ·exact ZaX (h1 p hp) hg (Zbs (h1 p hp) h.row ZJ)
theorem ZiA{B':Nat}{c:Con}{v0 v1:Value}(h0:w.ownsRow B' 9 1 v0 c.s0.length (c.s0.map Value.string))(h1:w.ownsRow B' 9 1 v1 c.s1.length (c.s1.map Value.string)):∀ u∈(Za3 c v0 v1).toList,u.oneCell'=true:=by
 obtain⟨_,_,rfl⟩:=Zs h0;obtain⟨_,_,rfl⟩:=Zs h1;intro u hu;simp at hu;rcases hu with rfl | rfl | rfl | rfl | rfl | rfl | rfl <;> rfl
end
def Zo7(l:List Ev):List ByteArray:=Za1 (ZaS ((ZcJ l).map (·.key)))
def Zc1(l:List Ev):List Con:=(Zo7 l).map λ k=>Zbd k (ZcQ l (ZcJ l))
def ZfV(cs:List Con)(w:World)(r:Ending)(w':World):Prop:=∃ v ps,r = .returned v/\ps.map (·.1)=cs/\ConRows w.heap.size w' v ps/\Below w.heap.size w w'
theorem ZnI(l:List Ev):(Zo7 l).length<=l.length:=by
 have h1:=Ze7 (ZaS ((ZcJ l).map (·.key)));rw[Zb7,List.length_map] at h1;exact ZT h1 (List.length_filter_le _ _)
theorem ZrA{w:World}{a:Option Addr}{n cap:Nat}{l:List Ev}(h:EvSl w a n cap l)(hn:n<=100)(hr:∀ x∈l,x.r<5):
  Calls prog 113 #[.slice a n cap] w (ZfV (Zc1 l) w):=by
 have HL:=ZH (h.2.2.1);obtain⟨s1,Cs,Cp,Cq,Cr⟩:=info_parts Zru;obtain⟨s2,MS,MP,MQ,MR⟩:=info_parts Zo5;obtain⟨JC,HS,HR⟩:=ZH3 (ZnM h ZO hr) h hr;clear h hr;go_enter func113,ntmps113;go_wp2_with fail;refine JC.out.mono ?_;rintro _ w1 ⟨vc,rfl,FT,bS⟩;obtain⟨ac,cc,rfl,rO⟩:=EvSl.ab FT;have LR:(ZcJ l).length<=100:=by
  have:=List.length_filter_le (ZbT l) l;have:=HL.out;unfold ZcJ;omega
 obtain⟨I8,cL,zQ⟩:=ZH3 (Zk4 (HS.out.below bS) ZO HR.out rO ZO (λ x hx=>HR.out x (List.mem_filter.1 hx).1)) bS rO;clear bS FT rO;go_wp2_with fail;refine I8.out.mono ?_;rintro _ w2 ⟨vw,rfl,oO,bW⟩;obtain⟨aw,cw,rfl,Pz⟩:=EvSl.ab oO;obtain⟨Dw,cH,NN⟩:=ZH3 (zQ.out.below bW) (cL.out.trans (bW.mono cL.out.size)) Pz;clear oO Pz bW;go_wp2_with fail;obtain⟨cs,gz⟩:∃ cs,cs=ZcJ l:=⟨_,rfl⟩;obtain⟨ws,MH⟩:∃ ws,ws=ZcQ l (ZcJ l):=⟨_,rfl⟩;obtain⟨va,NS⟩:=ZH2 gz MH;rw[←MH] at NN ⊢;rw[←gz] at Dw LR ⊢;clear gz MH;go_loopw [5,18] (λ v i wr=>∃ q:Nat,q<=cs.length/\i = .int .i64 q/\Hid (wr.ownsRow w2.heap.size 9 1 v q ((cs.take q).map λ e=>Value.string e.key))/\Hid (Kept w2.heap.size w2 wr)) (λ _ i _=>cs.length-(intOf i).toNat)
 case atStart=>exact⟨0,Nat.zero_le _,rfl,ZH ⟨rfl,.inl ⟨rfl,rfl⟩⟩,ZH (ZKr w2)⟩
 case round =>
  obtain⟨q,hq,rfl,HO,HK⟩:=hrel;obtain⟨a5,c5,rfl⟩:=Zs HO.out;by_cases dy:q<cs.length
  ·obtain⟨e,he⟩:∃ e,cs[q]? = some e:=⟨_,ZX dy⟩;have hs:=Dw.out.of_same (w':=wr) (λ ad _ hl=>HK.out.below.block _ hl) HK.out.le;obtain⟨bk,off,rfl,cQ,c0,c1,c2,c3,c4,RQ,c6,c7,c8,c9,cP,cR⟩:=hs.at_ he;have it:(cs.take (q+1)).map (λ e=>Value.string e.key)=(cs.take q).map (λ e=>Value.string e.key)++[.string e.key]:=by rw[Zag he];simp
   have hx:=ZBn wr 89 (evArr e);obtain⟨x0,x1,x2,x3,x4,x5,x6,x7,x8,x9,eE,eG⟩:=hx.ae;have jG:=ZH ((HO.out.alloc (.cells (evArr e) 89)).alloc (.cells #[.string e.key] 9));have cJ:=(HK.out.alloc (.cells (evArr e) 89)).alloc (.cells #[.string e.key] 9);have iH:Hid (Reads ((wr.alloc (.cells (evArr e) 89)).alloc (.cells #[.string e.key] 9)) _ 1 (some ⟨wr.heap.size+1,0,none⟩) 1 [.string e.key]):=ZH (Reads.ao (Z6 wr _ _ _) rfl);have fc:=cJ.le;obtain⟨eI,cr⟩:=ZH2 it cJ
   have iz:Hid (∀ u∈[Value.string e.key],u.oneCell'=true):=ZH (λ u hu=>by
    simp at hu;subst hu
    rfl)
   clear hs he it hx cJ
   go_wp2_with (first
    |(at_builtin
      refine Zc _ rfl (.tmp 22) (.tmp 25) _ rfl w2.heap.size 9 s1 _ 1 16 underlying63 Cs Cp Cq Cr rfl ZO (.slice a5 q c5) q ((cs.take q).map λ e=>Value.string e.key) rfl jG.out _ (some ⟨wr.heap.size+1,0,none⟩) 1 1 [.string e.key] rfl iH.out iz.out ZF ZO fc ?_;intro v7 w7 bX cN _;rw[←eI.out] at bX;have ik:Kept w2.heap.size w2 w7:=⟨cr.out.below.grown cN cr.out.le (λ g hg=>(Zb jG.out hg).1),ZT cr.out.le cN.size⟩;obtain⟨gW,fd⟩:=ZH2 bX ik
      clear bX cN ik))
   go_roundw
   case rel=>exact⟨q+1,ZO,ZN,gW,fd⟩
   case measure=>simp[intOf];omega
  ·obtain rfl:q=cs.length:=ZO;rw[List.take_length] at HO;have nR:cs.map (λ e=>Value.string e.key)=(cs.map (·.key)).map Value.string:=ZM;have kj:cs.length=(cs.map (·.key)).length:=ZM;have ho:=HO.out;rw[nR,kj] at ho;have iF:=Zip ho (by rw[←kj];omega);rw[←kj] at iF;obtain⟨n9,gV,zC⟩:=ZH3 iF ho kj;clear ho iF nR kj;go_wp2_with fail;refine n9.out.mono ?_;rintro _ w4 ⟨rfl,ie,dn⟩;have qo:=Zfv ie (by rw[Zb7,←zC.out];omega);have cZ:Hid (Kept w2.heap.size w2 w4):=ZH (⟨HK.out.below.grown dn HK.out.le (λ g hg=>(Zb HO.out hg).1),ZT HK.out.le dn.size⟩);obtain⟨qP,fU⟩:=ZH2 qo ie;clear qo ie dn;go_wp2_with fail;refine qP.out.mono ?_;rintro _ w5 ⟨v5,rfl,eC,kg,_⟩;obtain⟨a9,c9,rfl⟩:=Zs eC;have ef:Kept w2.heap.size w2 w5:=⟨cZ.out.below.grown kg cZ.out.le (λ g hg=>(Zb fU.out hg).1),ZT cZ.out.le kg.size⟩;obtain⟨ks,qA⟩:∃ ks,ks=Za1 (ZaS (cs.map (·.key))):=⟨_,rfl⟩;have Cb:ks.length<=100:=by
    have h1:=Ze7 (ZaS (cs.map (·.key)));rw[Zb7,←zC.out] at h1;rw[qA];omega
   have i4:Zc1 l=ks.map λ k=>Zbd k ws:=by
    rw[qA,va.out,NS.out];rfl
   rw[←qA] at eC ⊢;obtain⟨fi,gH,qM⟩:=ZH3 ef eC i4;clear ef eC kg qA i4;go_wp2_with fail;generalize w5=W at *;go_loopw [8,33] (λ v i wr=>∃ (q:Nat) (ps:List (Con × Value × Value)),q<=ks.length/\i = .int .i64 q/\Hid (ps.map (·.1)=(ks.take q).map λ k=>Zbd k ws)/\Hid (ConRows W.heap.size wr v ps)/\Hid (Kept W.heap.size W wr)) (λ _ i _=>ks.length-(intOf i).toNat)
   case atStart=>exact⟨0,[],Nat.zero_le _,rfl,ZH rfl,ZH (ConRows.nil _ _),ZH (ZKr W)⟩
   case round =>
    obtain⟨q,ps,hq,rfl,ij,HC,qW⟩:=hrel;obtain⟨a8,c8,rfl⟩:=Zs HC.out.row;by_cases dy:q<ks.length
    ·obtain⟨k,hk⟩:∃ k,ks[q]? = some k:=⟨_,ZX dy⟩;obtain⟨g,hg,eB,bU⟩:=Zby gH.out ZO;have eb:=bU q (by simp;exact dy);rw[List.getElem?_map,hk,Option.map_some,←qW.out.cells g q eB] at eb;subst hg;have LA:g<wr.heap.size:=ZR eB qW.out.le;have Pu:(0:Int)<=(q:Int):=ZO;have fQ:ps.length=q:=by
      have:=congrArg List.length ij.out;rw[List.length_map,List.length_map,ZV] at this;omega
     have sa:=Zl8 ((NN.out.below fi.out.below).below qW.out.below) (by
      have h1:=List.length_filter_le (ZeY l cs) l;have h2:=NS.out;have h3:=HL.out;rw[h2,ZcQ,←va.out]
      omega) k
     have fh:(ks.take (q+1)).map (λ k=>Zbd k ws)=(ks.take q).map (λ k=>Zbd k ws)++[Zbd k ws]:=by
      rw[List.take_add_one,hk];simp
     obtain⟨xu,kS,mE⟩:=ZH3 sa fQ fh;clear hk bU sa fQ fh;go_wp2_with fail;refine xu.out.mono ?_;rintro _ w6 ⟨v0,v1,rfl,nU,eh,eu⟩;have dA:=ZiA nU eh;obtain⟨DQ,Gu,rfl⟩:=Zs nU;obtain⟨DR,Gv,rfl⟩:=Zs eh;obtain⟨C,hC⟩:∃ C,C=Zbd k ws:=⟨_,rfl⟩;rw[←hC] at nU eh dA ⊢;obtain⟨n0,fJ⟩:∃ n0,n0=C.s0.length:=⟨_,rfl⟩;obtain⟨n1,qB⟩:∃ n1,n1=C.s1.length:=⟨_,rfl⟩;rw[←fJ] at nU dA ⊢;rw[←qB] at eh dA ⊢;have B4:=HC.out.below eu;have sc:=qW.out.step eu;have fH:=(ZW w6.heap.size w6).alloc (ZL _) (.cells (Za3 C (.slice DQ n0 Gu) (.slice DR n1 Gv)) 66);obtain⟨um,fd,H0,H1,iz,zH,JO,I7,iH⟩:=ZH9 (B4.below fH) (sc.alloc (.cells (Za3 C (.slice DQ n0 Gu) (.slice DR n1 Gv)) 66)) (Zi (Ze nU fH) qW.out.le) (Zi (Ze eh fH) qW.out.le) dA fJ qB hC (Reads.ao (sz:=7) (n:=1) (ZBn w6 66 (Za3 C (.slice DQ n0 Gu) (.slice DR n1 Gv))) rfl);have fc:=fd.out.le;clear nU eh dA hC fJ qB B4 sc fH eu;have i8:=ZH (um.out.row)
     go_wp2_with (first
      |(at_builtin
        refine Zc _ rfl (.tmp 37) (.tmp 41) _ rfl W.heap.size 66 s2 _ 7 104 underlying38 MS MP MQ MR rfl ZO (.slice a8 ps.length c8) ps.length (conCells ps) rfl i8.out _ (some ⟨w6.heap.size,0,none⟩) 1 1 (Za3 C (.slice DQ n0 Gu) (.slice DR n1 Gv)).toList rfl iH.out iz.out (by simp only[maxLen];have:=kS.out;omega) (by have:=kS.out;omega) fc ?_;intro v7 w7 bX cN _
        have kF:=um.out.push (qs:=[(C,.slice DQ n0 Gu,.slice DR n1 Gv)]) cN bX (λ p hp=>by
         simp at hp;subst hp;have:=H0.out;rw[zH.out] at this ⊢;exact this) (λ p hp=>by
         simp at hp;subst hp;have:=H1.out;rw[JO.out] at this ⊢
         exact this)
        have ik:Kept W.heap.size W w7:=⟨fd.out.below.grown cN fd.out.le (λ g hg=>(Zb i8.out hg).1),ZT fd.out.le cN.size⟩;obtain⟨zr,mf⟩:=ZH2 kF ik
        clear bX cN ik kF))
     go_roundw
     case rel=>exact⟨q+1,_,ZO,ZN,ZH (by rw[mE.out,←ij.out,List.map_append,←I7.out];rfl),zr,mf⟩
     case measure=>simp[intOf];omega
    ·obtain rfl:q=ks.length:=ZO;rw[List.take_length] at ij;go_wp2
     go_ret;have iM:=cH.out.trans (fi.out.below.mono cH.out.size);exact⟨_,ps,rfl,by rw[ij.out,qM.out],HC.out.mono iM.size,iM.trans (qW.out.below.mono iM.size)⟩
end
def Za8(k:Nat):Value := .agg #[.bool (decide (k=1∨k=4)),.bool (decide (k=2)),.bool (decide (k=3∨k=5))]
theorem Ze0:Enc (.int .i64) (λ k:Int=>Value.int .i64 k):=⟨λ _=>rfl,λ a b h=>by injection h⟩
theorem Zof:(prog.info? 225).map (·.zero)=some (some (.agg #[.bool false,.bool false,.bool false])):=ZK
theorem Zna{P:Program}{t:TypeId}{z:Value}(h:(P.info? t).map (·.zero)=some (some z))(w:World):(zeroValue t).run P w = .ok z w:=by
 cases hq:P.info? t with
 | none=>rw[hq] at h;simp at h
 | some i =>
  rw[hq] at h;have hz:i.zero=some z:=by simpa using h
  simp[zeroValue,typeInfo,hq,hz]
theorem Zci(k:Nat)(h1:1<=k)(h5:k<=5)(w:World):Calls prog 120 #[.int .i64 k] w (Zv (.tuple #[Za8 k,.bool true]) w):=by
 have wL:=MapKV.new (λ k:Int=>Value.int .i64 k) (w.alloc (.cells #[.bool false,.bool false,.bool false] 225));have e1:(w.alloc (.cells #[.bool false,.bool false,.bool false] 225)).heap.size=w.heap.size+1:=ZM;rw[e1] at wL;have cA:=((ZKr w).alloc (.cells #[.bool false,.bool false,.bool false] 225)).alloc (.map #[] 0);have nU:=(ZBn w 225 #[.bool false,.bool false,.bool false]).alloc (.map #[] 0);obtain⟨W1,co,lM,nk⟩:=Zcn (P:=prog) Ze0 underlying272 underlying3 wL 1 (.agg #[.bool true,.bool false,.bool false]);have dE:Kept w.heap.size w W1:=⟨cA.below.grown nk cA.le (λ g hg=>by injection hg with hg;omega),ZT cA.le nk.size⟩;have eh:=nU.grown nk (λ e=>by injection e with e;omega);clear wL cA nU nk;obtain⟨W2,cm,jh,eN⟩:=Zcn (P:=prog) Ze0 underlying272 underlying3 lM 2 (.agg #[.bool false,.bool true,.bool false]);have cJ:Kept w.heap.size w W2:=⟨dE.below.grown eN dE.le (λ g hg=>by injection hg with hg;omega),ZT dE.le eN.size⟩;have dC:=eh.grown eN (λ e=>by injection e with e;omega);clear lM dE eh eN;obtain⟨W3,cO,Pk,ir⟩:=Zcn (P:=prog) Ze0 underlying272 underlying3 jh 3 (.agg #[.bool false,.bool false,.bool true]);have cY:Kept w.heap.size w W3:=⟨cJ.below.grown ir cJ.le (λ g hg=>by injection hg with hg;omega),ZT cJ.le ir.size⟩;have ew:=dC.grown ir (λ e=>by injection e with e;omega);clear jh cJ dC ir;obtain⟨W4,dS,LZ,dn⟩:=Zcn (P:=prog) Ze0 underlying272 underlying3 Pk 4 (.agg #[.bool true,.bool false,.bool false]);have dr:Kept w.heap.size w W4:=⟨cY.below.grown dn cY.le (λ g hg=>by injection hg with hg;omega),ZT cY.le dn.size⟩;have ie:=ew.grown dn (λ e=>by injection e with e;omega);clear Pk cY ew dn;obtain⟨W5,gS,L0,kg⟩:=Zcn (P:=prog) Ze0 underlying272 underlying3 LZ 5 (.agg #[.bool false,.bool false,.bool true]);have ef:Kept w.heap.size w W5:=⟨dr.below.grown kg dr.le (λ g hg=>by injection hg with hg;omega),ZT dr.le kg.size⟩;have eC:=ie.grown kg (λ e=>by injection e with e;omega);clear LZ dr ie kg;obtain⟨hl,_⟩:=ZgE (P:=prog) Ze0 underlying272 underlying3 (.agg #[.bool false,.bool false,.bool false]) (Zna Zof) L0 k;have hv:ZeK (ZeR (ZeR (ZeR (ZeR (ZeR ([]:List (Int × Value)) 1 (.agg #[.bool true,.bool false,.bool false])) 2 (.agg #[.bool false,.bool true,.bool false])) 3 (.agg #[.bool false,.bool false,.bool true])) 4 (.agg #[.bool true,.bool false,.bool false])) 5 (.agg #[.bool false,.bool false,.bool true])) (k:Int)=some (Za8 k):=by
  rcases(by omega:k=1∨k=2∨k=3∨k=4∨k=5) with rfl | rfl | rfl | rfl | rfl <;> rfl
 rw[hv] at hl;obtain⟨s0,s1,s2,hs⟩:∃ s0 s1 s2,Za8 k = .agg #[.bool s0,.bool s1,.bool s2]:=⟨_,_,_,rfl⟩;rw[hs] at hl ⊢;have iP:=@run_makeMap prog;have ce:=eC.lt;obtain⟨c0,c1,c2⟩:=eC.three;have f0:=eC.frozen 0;have f1:=eC.frozen 1;have f2:=eC.frozen 2;obtain⟨HR,HK⟩:=ZH2 eC ef;clear eC ef L0 hs hv e1;go_enter func120,ntmps120;go_wp2_with fail;have dx:=((((HR.out.ai 0 (.bool s0)).ai 1 (.bool s1)).ai 2 (.bool s2)).alloc (.cells #[.bool s0,.bool s1,.bool s2] 225));have rB:=(((HK.out.setCell (p:=⟨w.heap.size,0,none⟩) (ZL _) (.bool s0)).setCell (p:=⟨w.heap.size,1,none⟩) (ZL _) (.bool s1)).setCell (p:=⟨w.heap.size,2,none⟩) (ZL _) (.bool s2)).alloc (.cells #[.bool s0,.bool s1,.bool s2] 225);refine bodyPost_ret (Zn rfl rfl rfl (run_loadVar_row _ _ _ _ _ _ _ dx underlying225 rfl ZK)) rfl ?_;exact⟨rfl,rB.below⟩
theorem ZbB(k:Nat)(h:k<=1048576)(w:World):Calls prog 166 #[.int .i64 k] w (Zv (.bool true) w):=by
 have h0:(0:Int)<=(k:Int):=ZO;have h1:(k:Int)<=1048576:=ZO;go_enter func166,ntmps166;go_wp2
 go_ret;exact⟨ZM,ZW _ _⟩
theorem ZgC(d:Nat)(xs ys:List Int)(w:World):∀ (is:List Nat),(∀ i∈is,i<xs.length/\i<ys.length) ->
  (Op.eqItems (d+1) 3 1 (xs.map λ n=>Value.int .i64 n).toArray (ys.map λ n=>Value.int .i64 n).toArray is).run prog w = .ok (decide (∀ i∈is,xs[i]? = ys[i]?)) w
 | [],_=>by simp[Op.eqItems]
 | i::is,h=>by
  obtain⟨h1,h2⟩:=h i ZM;have ih:=ZgC d xs ys w is (λ j hj=>h j (by simp[hj]));obtain⟨x,hx⟩:∃ x,xs[i]? = some x:=⟨_,ZX h1⟩;obtain⟨y,hy⟩:∃ y,ys[i]? = some y:=⟨_,ZX h2⟩;have p1:=run_part_plain (P:=prog) (w:=w) Zg9 (xs:=(xs.map λ n=>Value.int .i64 n).toArray) (off:=i*1) (v := .int .i64 x) (by simp[hx]);have p2:=run_part_plain (P:=prog) (w:=w) Zg9 (xs:=(ys.map λ n=>Value.int .i64 n).toArray) (off:=i*1) (v := .int .i64 y) (by simp[hy]);have hq:=run_equalIn_int (P:=prog) w d 3 .i64 .i64 x y underlying3;simp only[Op.eqItems,Sem.run_bind,p1,p2,hq,Result.andThen_ok];by_cases PJ:x=y
  ·subst PJ;simp[ih,hx,hy]
  ·simp[hx,hy,PJ]
theorem ZaO(a b:Clk)(d:Nat)(w:World):(Op.equalIn (d+1+1) 44 (Za2 a) (Za2 b)).run prog w = .ok (decide (a=b)) w:=by
 obtain⟨i0,hi,cM,cG,cK⟩:=info_parts Zrt;have hc:prog.cellsOf 3=1:=ZK;have h:=run_equalIn_array (P:=prog) w (d+1) (clkArr a) (clkArr b) underlying44 hi;have e:=ZgC d [a.c0,a.c1,a.c2,a.c3,a.c4] [b.c0,b.c1,b.c2,b.c3,b.c4] w (List.range 5) (by intro i hi;simp at hi ⊢;omega);have ea:∀ a:Clk,(([(a.c0:Int),a.c1,a.c2,a.c3,a.c4]:List Int).map λ n=>Value.int .i64 n).toArray=clkArr a:=λ a=>rfl
 rw[ea,ea] at e;rw[hc] at h;rw[h,e];congr 1;obtain⟨a0,a1,a2,a3,a4⟩:=a;obtain⟨b0,b1,b2,b3,b4⟩:=b;simp only[List.range,List.range.loop];rw[Bool.eq_iff_iff];simp;omega
end Go.Proofs.YtjkfognelhiepaaGreat
