import Derived.Test.YtjkfognelhiepaaGreatC08
namespace Go.Proofs.YtjkfognelhiepaaGreat
open Go.RowKit _root_.Go.Proofs.Tryz
set_option maxRecDepth 100000
set_option maxHeartbeats 8000000
theorem Zqs(ah ar bh br:Int)(w:World):
  Calls prog 221 #[.agg #[.int .i64 ah,.int .i64 ar],.agg #[.int .i64 bh,.int .i64 br]] w λ e w'=>e = .returned (.bool (ZdE (ah,ar) (bh,br)))/\Below w.heap.size w w':=by
 by_cases h:ah=bh
 ·subst h;go_enter func221,ntmps221;go_wp2
  go_ret;exact⟨by simp[ZdE],((ZW _ _).alloc (ZL _) _).alloc ZM _⟩
 ·have h':(ah != bh)=true:=by simpa using h
  go_enter func221,ntmps221;go_wp2
  go_ret;exact⟨by simp[ZdE,h],((ZW _ _).alloc (ZL _) _).alloc ZM _⟩
def Zoz(w:World)(b off n:Nat)(xs:List (Int × Int)):Prop :=
 b<w.heap.size/\xs.length=n/\∀ i,i<n->w.cell? ⟨b,off+i*2,none⟩=some (.int .i64 (xs.getD i (0,0)).1)/\w.cell? ⟨b,off+i*2+1,none⟩=some (.int .i64 (xs.getD i (0,0)).2)
def ZpZ(xs:List (Int × Int))(w:World)(e:Ending)(w':World):Prop:=∃ k:Nat,e = .returned (.int .i64 k)/\IsLast xs k/\Below w.heap.size w w'
theorem Zj4(b off n cap:Nat)(xs:List (Int × Int))(w:World)(fJ:0<n)(hn:n<=100)(hx:Zoz w b off n xs):
  Calls prog 186 #[.slice (some ⟨b,off,none⟩) n cap] w (ZpZ xs w):=by
 obtain⟨hb,hl,hc⟩:=hx;have pP:=ZH hl;obtain⟨NX,NY⟩:=hc 0 fJ;have hz:((n:Int)==0)=false:=ZP;have cK:(0:Int)<n:=ZO;have KO:=ZoA xs;have Oh:=ZgM xs;generalize jX:xs.getD 0 (0,0)=x0 at NX NY KO;obtain⟨Ts,Tt⟩:=x0;have rX:=ZH KO;clear jX KO;have HC:=ZH hc;clear hc;have HS:=ZH Oh;clear Oh hl;simp only[Nat.zero_mul,Nat.add_zero] at NX NY;go_enter func186,ntmps186;go_wp2_with fail;go_loopw [16] (λ i wr=>∃ (k:Nat) (ma mb:Int),k<=n/\i = .int .i64 k/\Hid (ZfW xs k=(ma,mb))/\Blk wr w.heap.size 299 #[.int .i64 ma,.int .i64 mb]/\Below w.heap.size w wr) (λ i _=>n-(intOf i).toNat)
 case atStart=>exact⟨0,Ts,Tt,Nat.zero_le _,rfl,rX,ZBn _ _ _,(ZW _ _).alloc (ZL _) _⟩
 case round =>
  obtain⟨k,ma,mb,hk,rfl,HM,hB,fW⟩:=hrel;have pD:=hB.cell 0;have cW:=hB.cell 1;have Oi:=hB.frozen 0;have Ed:=hB.frozen 1;have oh:=hB.lt;simp at pD cW;by_cases ce:k<n
  ·obtain⟨d0,d1⟩:=HC.out k ce;rw[←fW.cell (p:=⟨b,off+k*2,none⟩) hb] at d0;rw[←fW.cell (p:=⟨b,off+k*2+1,none⟩) hb] at d1;have hS:=HS.out k (by rw[pP.out];exact ce);rw[HM.out] at hS;generalize IR:xs.getD k (0,0)=xk at d0 d1 hS;obtain⟨xa,xb⟩:=xk;simp only[] at d0 d1;have NO:=ZH hS;clear hS IR;go_wp2_with fail;refine(Zqs ma mb xa xb _).mono ?_;rintro e w1 ⟨rfl,bS⟩;obtain⟨mu,hff⟩:=Znh bS;have dL:=bS.size;simp at dL;have Oj:Blk w1 w.heap.size 299 #[.int .i64 ma,.int .i64 mb]:=Blk.below (hB.alloc _) bS ZP;have yg:Below w.heap.size w w1:=(fW.alloc ZO _).trans (bS.mono ZP)
   cases hL:ZdE (ma,mb) (xa,xb)
   ·go_wp2
    go_roundw
    case rel=>exact⟨k+1,ma,mb,ZO,ZN,by rw[NO.out];simp[Hid,mx,hL],Oj,yg⟩
    case measure=>simp[intOf];omega
   ·go_wp2
    go_roundw
    case rel=>exact⟨k+1,xa,xb,ZO,ZN,by rw[NO.out];simp[Hid,mx,hL],by have:=(Oj.ai 0 (.int .i64 xa)).ai 1 (.int .i64 xb);simpa using this,(yg.setCell (ZL _) _).setCell (ZL _) _⟩
    case measure=>simp[intOf];omega
  ·obtain rfl:n=k:=ZO;go_wp2_with fail;have kJ:=pP.out;have tM:=Zib xs ZO n ZO;have Bs:=Zic xs n ZO;rw[HM.out] at tM Bs;obtain⟨JN,Km⟩:=ZH2 tM Bs;clear tM Bs;have HL:=ZH kJ;clear kJ;go_loopw [27] (λ i j5=>∃ (k:Nat),k<=n/\i = .int .i64 k/\(∀ j,j<k->xs.getD j (0,0)≠(ma,mb))/\Blk j5 w.heap.size 299 #[.int .i64 ma,.int .i64 mb]/\Below w.heap.size w j5) (λ i _=>n-(intOf i).toNat)
   case atStart=>exact⟨0,Nat.zero_le _,rfl,λ j hj=>ZO,hB,fW⟩
   case round =>
    clear hB fW pD cW Oi Ed oh;obtain⟨k,hk,rfl,gr,hB,fW⟩:=hrel;have JS:=ZH gr;clear gr;have pD:=hB.cell 0;have cW:=hB.cell 1;have Oi:=hB.frozen 0;have Ed:=hB.frozen 1;have oh:=hB.lt;simp at pD cW;by_cases ce:k<n
    ·obtain⟨d0,d1⟩:=HC.out k ce;rw[←fW.cell (p:=⟨b,off+k*2,none⟩) hb] at d0;rw[←fW.cell (p:=⟨b,off+k*2+1,none⟩) hb] at d1;generalize IR:xs.getD k (0,0)=xk at d0 d1;obtain⟨xa,xb⟩:=xk;simp only[] at d0 d1;have Ks:=ZH IR;clear IR;go_wp2_with fail
     ·rename_i e1 e2;subst e1 e2;go_ret;have e0:=HL.out;refine⟨k,rfl,⟨ZO,λ j hj=>?_,λ j hj=>?_⟩,fW.alloc ZO _⟩
      ·rw[Ks.out];exact Km.out j ZO
      ·rw[Ks.out];exact JS.out j hj
     all_goals
      go_roundw
      case rel =>
       refine⟨k+1,ZO,ZN,λ j hj=>?_,hB.alloc _,fW.alloc ZO _⟩;rcases Nat.lt_or_ge j k with h | h
       ·exact JS.out j h
       ·obtain rfl:j=k:=ZO;rw[Ks.out];simp only[ne_eq,Prod.mk.injEq];omega
      case measure=>simp[intOf];omega
    ·exfalso
     obtain⟨j,h1,h2⟩:=JN.out;have:=HL.out;exact JS.out j ZO h2
end Go.Proofs.YtjkfognelhiepaaGreat
namespace Go.Proofs
open Go.RowKit _root_.Go.Proofs.Tryz _root_.Go.Proofs.YtjkfognelhiepaaGreat
set_option maxRecDepth 100000
set_option maxHeartbeats 8000000
open Go.Shelf
def Tryz.lays194_ren:Go.Shelf.Ren:=⟨λ | 194=>156 | n=>n,λ | 31=>63 | 9=>9 | 3=>3 | 4=>4 | 0=>0 | n=>n,λ | n=>n⟩
theorem Tryz.lays194:Go.Proofs.Lays.n194 prog Tryz.lays194_ren:={
 mixed:=ZK
 f194:=func156.trans (congrArg some ZK)
 t0:=underlying0
 a0:=Tryz.isAgg0
 z0:=Tryz.sizeOf0
 v0:=Tryz.zeroValue0
 t3:=underlying3
 a3:=Tryz.isAgg3
 z3:=Tryz.sizeOf3
 v3:=Tryz.zeroValue3
 t4:=underlying4
 a4:=Tryz.isAgg4
 z4:=Tryz.sizeOf4
 v4:=Tryz.zeroValue4
 t9:=underlying9
 a9:=Tryz.isAgg9
 z9:=Tryz.sizeOf9
 v9:=Tryz.zeroValue9
 t31:=underlying63
 a31:=Tryz.isAgg63
 z31:=Tryz.sizeOf63
 v31:=Tryz.zeroValue63 }
def Tryz.keys112_ren:Go.Shelf.Ren:=⟨λ | 7=>112 | 10=>153 | n=>n,λ | 23=>197 | 26=>9 | 3=>128 | 28=>195 | 0=>0 | 27=>194 | 33=>261 | 4=>4 | n=>n,λ | n=>n⟩
theorem Tryz.keys112:Go.Proofs.SlLaysZ.n7 prog Tryz.keys112_ren:={
 mixed:=ZK
 f7:=⟨f112.name,ZJ,func112.trans (congrArg some ZK)⟩
 f10:=⟨f153.name,ZJ,func153.trans (congrArg some ZK)⟩
 t0:=underlying0
 a0:=Tryz.isAgg0
 z0:=Tryz.sizeOf0
 v0:=Tryz.zeroValue0
 t4:=underlying4
 a4:=Tryz.isAgg4
 z4:=Tryz.sizeOf4
 v4:=Tryz.zeroValue4
 t23:=underlying197
 a23:=Tryz.isAgg197
 z23:=Tryz.sizeOf197
 v23:=Tryz.zeroValue197
 t26:=underlying9
 a26:=Tryz.isAgg9
 z26:=Tryz.sizeOf9
 v26:=Tryz.zeroValue9
 t27:=underlying194
 a27:=Tryz.isAgg194
 z27:=Tryz.sizeOf194
 v27:=Tryz.zeroValue194
 t28:=underlying195
 a28:=Tryz.isAgg195
 z28:=Tryz.sizeOf195
 v28:=Tryz.zeroValue195
 t33:=underlying261
 a33:=Tryz.isAgg261
 z33:=Tryz.sizeOf261
 v33:=Tryz.zeroValue261 }
def Tryz.sorted111_ren:Go.Shelf.Ren:=⟨λ | 6=>111 | 8=>151 | 9=>152 | 11=>179 | 13=>181 | 12=>180 | 23=>214 | 24=>215 | 14=>205 | 15=>206 | 16=>207 | 17=>208 | 18=>209 | 19=>210 | 20=>211 | 21=>212 | 22=>213 | 25=>233 | 26=>234 | 27=>235 | 28=>236 | 29=>237 | 30=>238 | 31=>244 | n=>n,λ | 26=>9 | 28=>195 | 24=>63 | 0=>0 | 3=>3 | 37=>292 | 48=>34 | 50=>230 | 4=>4 | 40=>321 | 39=>320 | 45=>326 | 5=>5 | 9=>9 | 51=>341 | 55=>345 | 57=>351 | 58=>352 | 33=>261 | n=>n,λ | n=>n⟩
theorem Tryz.sorted111:Go.Proofs.SlLaysZ.n6 prog Tryz.sorted111_ren:={
 mixed:=ZK
 f6:=⟨f111.name,ZJ,func111.trans (congrArg some ZK)⟩
 f8:=⟨f151.name,ZJ,func151.trans (congrArg some ZK)⟩
 f11:=⟨f179.name,ZJ,func179.trans (congrArg some ZK)⟩
 t0:=underlying0
 a0:=Tryz.isAgg0
 z0:=Tryz.sizeOf0
 v0:=Tryz.zeroValue0
 t24:=underlying63
 a24:=Tryz.isAgg63
 z24:=Tryz.sizeOf63
 v24:=Tryz.zeroValue63
 t26:=underlying9
 a26:=Tryz.isAgg9
 z26:=Tryz.sizeOf9
 v26:=Tryz.zeroValue9
 t28:=underlying195
 a28:=Tryz.isAgg195
 z28:=Tryz.sizeOf195
 v28:=Tryz.zeroValue195
 i26:=by kernel_rfl }
def Tryz.sort152_ren:Go.Shelf.Ren:=⟨λ | 6=>152 | 8=>181 | 9=>180 | 19=>214 | 20=>215 | 21=>205 | 22=>206 | 23=>207 | 24=>208 | 25=>209 | 26=>210 | 27=>211 | 28=>212 | 29=>213 | 36=>233 | 31=>234 | 32=>235 | 37=>236 | 38=>237 | 39=>238 | 41=>244 | n=>n,λ | 27=>63 | 29=>9 | 3=>3 | 32=>292 | 26=>63 | 0=>0 | 44=>34 | 46=>230 | 4=>4 | 36=>321 | 35=>320 | 41=>326 | 5=>5 | 9=>9 | 53=>341 | 57=>345 | 63=>351 | 64=>352 | n=>n,λ | n=>n⟩
theorem Tryz.sort152:Go.Proofs.SlLaysM.n6 prog Tryz.sort152_ren:={
 mixed:=ZK
 f6:=⟨f152.name,ZJ,func152.trans (congrArg some ZK)⟩
 f8:=func181.trans (congrArg some ZK)
 f9:=⟨f180.name,ZJ,func180.trans (congrArg some ZK)⟩
 f19:=func214.trans (congrArg some ZK)
 f20:=func215.trans (congrArg some ZK)
 f21:=⟨f205.name,ZJ,func205.trans (congrArg some ZK)⟩
 f22:=⟨f206.name,ZJ,func206.trans (congrArg some ZK)⟩
 f23:=⟨f207.name,ZJ,func207.trans (congrArg some ZK)⟩
 f24:=⟨f208.name,ZJ,func208.trans (congrArg some ZK)⟩
 f25:=⟨f209.name,ZJ,func209.trans (congrArg some ZK)⟩
 f26:=⟨f210.name,ZJ,func210.trans (congrArg some ZK)⟩
 f27:=⟨f211.name,ZJ,func211.trans (congrArg some ZK)⟩
 f28:=⟨f212.name,ZJ,func212.trans (congrArg some ZK)⟩
 f29:=⟨f213.name,ZJ,func213.trans (congrArg some ZK)⟩
 f31:=func234.trans (congrArg some ZK)
 f32:=func235.trans (congrArg some ZK)
 f36:=⟨f233.name,ZJ,func233.trans (congrArg some ZK)⟩
 f37:=⟨f236.name,ZJ,func236.trans (congrArg some ZK)⟩
 f38:=⟨f237.name,ZJ,func237.trans (congrArg some ZK)⟩
 f39:=⟨f238.name,ZJ,func238.trans (congrArg some ZK)⟩
 f41:=⟨f244.name,ZJ,func244.trans (congrArg some ZK)⟩
 t0:=underlying0
 a0:=Tryz.isAgg0
 z0:=Tryz.sizeOf0
 v0:=Tryz.zeroValue0
 t3:=underlying3
 a3:=Tryz.isAgg3
 z3:=Tryz.sizeOf3
 v3:=Tryz.zeroValue3
 t4:=underlying4
 a4:=Tryz.isAgg4
 z4:=Tryz.sizeOf4
 v4:=Tryz.zeroValue4
 t5:=underlying5
 a5:=Tryz.isAgg5
 z5:=Tryz.sizeOf5
 v5:=Tryz.zeroValue5
 t9:=underlying9
 a9:=Tryz.isAgg9
 z9:=Tryz.sizeOf9
 v9:=Tryz.zeroValue9
 t26:=underlying63
 a26:=Tryz.isAgg63
 z26:=Tryz.sizeOf63
 v26:=Tryz.zeroValue63
 t27:=underlying63
 a27:=Tryz.isAgg63
 z27:=Tryz.sizeOf63
 v27:=Tryz.zeroValue63
 t29:=underlying9
 a29:=Tryz.isAgg9
 z29:=Tryz.sizeOf9
 v29:=Tryz.zeroValue9
 t32:=underlying292
 a32:=Tryz.isAgg292
 z32:=Tryz.sizeOf292
 v32:=Tryz.zeroValue292
 t35:=underlying320
 a35:=Tryz.isAgg320
 z35:=Tryz.sizeOf320
 v35:=Tryz.zeroValue320
 t36:=underlying321
 a36:=Tryz.isAgg321
 z36:=Tryz.sizeOf321
 v36:=Tryz.zeroValue321
 t41:=underlying326
 a41:=Tryz.isAgg326
 z41:=Tryz.sizeOf326
 v41:=Tryz.zeroValue326
 t44:=underlying34
 a44:=Tryz.isAgg34
 z44:=Tryz.sizeOf34
 v44:=Tryz.zeroValue34
 t46:=underlying230
 a46:=Tryz.isAgg230
 z46:=Tryz.sizeOf230
 v46:=Tryz.zeroValue230
 t53:=underlying341
 a53:=Tryz.isAgg341
 z53:=Tryz.sizeOf341
 v53:=Tryz.zeroValue341
 t57:=underlying345
 a57:=Tryz.isAgg345
 z57:=Tryz.sizeOf345
 v57:=Tryz.zeroValue345
 t63:=underlying351
 a63:=Tryz.isAgg351
 z63:=Tryz.sizeOf351
 v63:=Tryz.zeroValue351
 t64:=underlying352
 a64:=Tryz.isAgg352
 z64:=Tryz.sizeOf352
 v64:=Tryz.zeroValue352 }
end Go.Proofs
namespace Go.Proofs.YtjkfognelhiepaaGreat
open Go.RowKit _root_.Go.Proofs.Tryz _root_.Go.Proofs.YtjkfognelhiepaaGreat
set_option maxRecDepth 100000
set_option maxHeartbeats 8000000
section
open Go.RowKit Go.MapKept
section
variable {P:Program}{α : Type}
structure Enc(d:TypeDesc)(enc : α -> Value):Prop where
 key:∀ a,IsKey d (enc a)
 inj:∀ a b,enc a=enc b->a=b
def MapKV(enc : α -> Value)(w:World)(b:Nat)(l:List (α × Value)):Prop :=
 ∃ es clk,w.heap[b]? = some (.map es clk)/\Stamped es clk/\es.toList.map (λ e=>(e.key,e.val))=l.map λ p=>(enc p.1,p.2)
variable {d:TypeDesc}{enc : α -> Value}{w:World}{b:Nat}{l:List (α × Value)}
theorem MapKV.lt(h:MapKV enc w b l):b<w.heap.size:=by
 obtain⟨es,clk,hb,_⟩:=h;exact(Array.getElem?_eq_some_iff.1 hb).1
theorem MapKV.of_same{w':World}(h:MapKV enc w b l)(hk:w'.heap[b]? = w.heap[b]?):MapKV enc w' b l:=by
 obtain⟨es,clk,hb,h2⟩:=h;exact⟨es,clk,hk.trans hb,h2⟩
theorem MapKV.below{w':World}(h:MapKV enc w b l)(hb:Below w.heap.size w w'):MapKV enc w' b l:=h.of_same (hb.block b h.lt)
theorem MapKV.new(enc : α -> Value)(w:World):MapKV enc (w.alloc (.map #[] 0)) w.heap.size []:=⟨#[],0,(heap_alloc w _).1,stamped_empty 0,rfl⟩
variable [DecidableEq α]
def Zdd(l:List (α × Value))(a : α):Option Nat:=l.findIdx? λ p=>decide (p.1=a)
def ZeK(l:List (α × Value))(a : α):Option Value:=(l.find? λ p=>decide (p.1=a)).map (·.2)
def ZeR(l:List (α × Value))(a : α)(v:Value):List (α × Value):=match Zdd l a with | some i=>l.set i (a,v) | none=>l++[(a,v)]
def ZkN(l:List (α × Value))(a : α):List (α × Value):=match Zdd l a with | some i=>l.eraseIdx i | none=>l
theorem Zf5(E:Enc d enc)(a : α):∀ (es:List MapEntry) (l:List (α × Value)) (i:Nat),es.map (λ e=>(e.key,e.val))=l.map (λ p=>(enc p.1,p.2)) ->
  Instr.findNow d (enc a) es i=some ((Zdd l a).bind λ k=>(l[k]?).map λ p=>(i+k,p.2))
 | [],l,i,h=>by
  have:l=[]:=by simpa using h.symm
  subst this;simp[Instr.findNow,Zdd]
 | x::es,[],i,h=>by simp at h
 | x::es,p::l,i,h=>by
  simp only[List.map_cons,List.cons.injEq,Prod.mk.injEq] at h;obtain⟨⟨h1,h2⟩,h3⟩:=h;have ih:=Zf5 E a es l (i+1) h3;have hx:IsKey d x.key:=by rw[h1];exact E.key _
  obtain⟨r,hr,oC⟩:=sameNow_of_keys (E.key a) hx;simp only[Instr.findNow,hr];by_cases hc:p.1=a
  ·have:r=true:=oC.2 (by rw[h1,hc]);subst this;simp[Zdd,List.findIdx?_cons,hc,h2]
  ·have:r=false:=by
    cases r with
    | false=>rfl
    | true =>
     have:=oC.1 rfl;rw[h1] at this;exact absurd (E.inj _ _ this).symm hc
   subst this;simp only[ih,Zdd,List.findIdx?_cons,hc,decide_false,Bool.false_eq_true,if_false]
   cases hf:l.findIdx? λ q=>decide (q.1=a) with
   | none=>simp
   | some k=>simp;congr 1;funext x;congr 1;omega
theorem Zp2(l:List (α × Value))(a : α):(match (Zdd l a).bind λ k=>(l[k]?).map λ p=>(0+k,p.2) with | some (_,v)=>some v | none=>none)=ZeK l a:=by
 induction l with
 | nil=>simp[Zdd,ZeK]
 | cons e l ih =>
  by_cases h:e.1=a
  ·simp[Zdd,ZeK,List.findIdx?_cons,h]
  ·simp only[Zdd,ZeK,List.findIdx?_cons,List.find?_cons,h,decide_false,Bool.false_eq_true,if_false] at ih ⊢;rw[←ih]
   cases l.findIdx? λ p=>decide (p.1=a) with
   | none=>simp
   | some k=>cases h2:l[k]? <;> simp[h2]
theorem ZgE(E:Enc d enc){mt kt et:TypeId}(hm:P.underlying mt=some (.map kt et))(hd:P.underlying kt=some d)(z:Value)(hz:∀ w,(zeroValue et).run P w = .ok z w)(h:MapKV enc w b l)(a : α):
  (Instr.lookup mt (.map (some b)) (enc a) true).run P w = .ok (match ZeK l a with | some v => .tuple #[v,.bool true] | none => .tuple #[z,.bool false]) w /\
  (Instr.lookup mt (.map (some b)) (enc a) false).run P w = .ok ((ZeK l a).getD z) w:=by
 obtain⟨es,clk,hb,_,gP⟩:=h;have hk:=run_findKey (P:=P) (w:=w) hd (Zf5 E a es.toList l 0 gP);have hc:=λ e=>run_checkKey (P:=P) (w:=w) hd (E.key a) e 9999
 have hg:=Go.MapKept.run_getObj_map (P:=P) hb;have hu:=run_underlying (w:=w) hm;have AV:=Zp2 l a;constructor;rotate_left;rotate_left
 all_goals
  rw[Instr.lookup];simp only[Sem.run_bind,hu,Result.andThen_ok,hg,hc,hk,Sem.run_pure];generalize (Zdd l a).bind (λ k=>(l[k]?).map λ p=>(0+k,p.2))=x at AV ⊢;rcases x with _ | ⟨i,v⟩ <;> simp only[] at AV <;> rw[←AV] <;> simp[hz]
theorem ZmL{a : α}{i:Nat}(h:Zdd l a=some i):i<l.length/\∃ v,l[i]? = some (a,v):=by
 unfold Zdd at h;obtain⟨hi,h1,_⟩:=List.findIdx?_eq_some_iff_getElem.1 h;have:l[i].1=a:=by simpa using h1
 refine⟨hi,l[i].2,?_⟩;rw[ZX hi,←this]
theorem Zcn(E:Enc d enc){mt kt et:TypeId}(hm:P.underlying mt=some (.map kt et))(hd:P.underlying kt=some d)(h:MapKV enc w b l)(a : α)(v:Value):
  ∃ w',(Instr.mapUpdate mt (.map (some b)) (enc a) v).run P w = .ok () w'/\MapKV enc w' b (ZeR l a v)/\w.grownBy w' (some b):=by
 obtain⟨es,clk,hb,hs,gP⟩:=h;have qu:=Zf5 E a es.toList l 0 gP;have hk:=run_findKey (P:=P) (w:=w) hd qu;have hc:=run_checkKey (P:=P) (w:=w) hd (E.key a) false 9999;have hg:=Go.MapKept.run_getObj_map (P:=P) hb;have hu:=run_underlying (w:=w) hm;have hlen:es.toList.length=l.length:=by have:=congrArg List.length gP;simpa using this
 have qz:∀ x∈es.toList,IsKey d x.key:=λ x hx=>by
  have:(x.key,x.val)∈l.map λ p=>(enc p.1,p.2):=by rw[←gP];exact List.mem_map_of_mem hx
  obtain⟨p,_,hp⟩:=List.mem_map.1 this;injection hp with hp _;rw[←hp];exact E.key _
 unfold ZeR
 cases hi:Zdd l a with
 | none =>
  rw[hi] at hk qu;have qD:∀ x∈es.toList,x.key≠enc a:=by
   rcases findNow_spec (E.key a) es.toList 0 qz with ⟨_,h2⟩|⟨j,e,h1,_,_⟩
   ·exact h2
   ·rw[h1] at qu;simp at qu
  refine⟨{ w with heap:=w.heap.setIfInBounds b (.map (es.push { key:=enc a,val:=v,born:=clk }) (clk+1)) },?_,⟨_,_,(heap_set hb).1,stamped_push hs qD,by simp[gP]⟩,Zca _ _ _⟩;rw[Instr.mapUpdate];simp only[Sem.run_bind,hu,Result.andThen_ok,hg,hc,hk,Option.bind_none];exact Go.MapKept.run_setObj_map _ hb
 | some i =>
  obtain⟨nQ,v0,IB⟩:=ZmL hi;rw[hi] at hk;simp only[Option.bind_some,IB,Option.map_some,Nat.zero_add] at hk;obtain⟨e,he⟩:∃ e,es[i]? = some e:=⟨_,Array.getElem?_eq_getElem (by have:es.size=l.length:=hlen;omega)⟩;have OW:e.key=enc a:=by
   have h1:=congrArg (λ l=>l[i]?) gP;simp only[List.getElem?_map,Array.getElem?_toList,he,IB,Option.map_some] at h1;injection h1 with h1;injection h1
  have ev:∀ e',es[i]? = some e'->({ e' with key:=enc a,val:=v }:MapEntry).key=e'.key:=λ e' ym=>by rw[he] at ym;cases ym;exact OW.symm
  refine⟨{ w with heap:=w.heap.setIfInBounds b (.map (es.modify i λ e=>{ e with key:=enc a,val:=v }) clk) },?_,⟨_,_,(heap_set hb).1,stamped_modify hs _ _ (λ _ _=>rfl) (λ e' _ ym=>ev e' ym),?_⟩,Zca _ _ _⟩
  ·rw[Instr.mapUpdate];simp only[Sem.run_bind,hu,Result.andThen_ok,hg,hc,hk,he,Option.map_some,Option.getD_some,OW,run_keyThatStays (E.key a)];exact Go.MapKept.run_setObj_map _ hb
  ·apply List.ext_getElem?;intro j;simp only[List.getElem?_map,Array.getElem?_toList,Array.getElem?_modify,List.getElem?_set];have h1:=congrArg (λ l=>l[j]?) gP;simp only[List.getElem?_map,Array.getElem?_toList] at h1;by_cases oD:i=j
   ·subst oD;rw[if_pos rfl,if_pos rfl,if_pos nQ,he];rfl
   ·rw[if_neg oD,if_neg oD];exact h1
theorem ZkI(E:Enc d enc){mt kt et:TypeId}(hm:P.underlying mt=some (.map kt et))(hd:P.underlying kt=some d)(h:MapKV enc w b l)(a : α)(ty:TypeId):
  ∃ w',(Builtin.delete_ #[mt,kt] ty #[.map (some b),enc a]).run P w = .ok (.tuple #[]) w'/\MapKV enc w' b (ZkN l a)/\w.grownBy w' (some b):=by
 obtain⟨es,clk,hb,hs,gP⟩:=h;have hk:=run_findKey (P:=P) (w:=w) hd (Zf5 E a es.toList l 0 gP);have hc:=λ e=>run_checkKey (P:=P) (w:=w) hd (E.key a) e 9999
 have hg:=Go.MapKept.run_getObj_map (P:=P) hb;have hu:=run_underlying (w:=w) hm;have hlen:es.toList.length=l.length:=by have:=congrArg List.length gP;simpa using this
 unfold ZkN
 cases hi:Zdd l a with
 | none =>
  rw[hi] at hk;refine⟨{ w with heap:=w.heap.setIfInBounds b (.map es clk) },?_,⟨es,clk,(heap_set hb).1,hs,gP⟩,Zca _ _ _⟩;simp only[Builtin.delete_,ZD,ZE,ZG,Sem.run_bind,hu,Result.andThen_ok,hg,hc,hk,Option.bind_none];simp[setObj,Sem.run,hb]
 | some i =>
  obtain⟨nQ,v0,IB⟩:=ZmL hi;rw[hi] at hk;simp only[Option.bind_some,IB,Option.map_some,Nat.zero_add] at hk;refine⟨{ w with heap:=w.heap.setIfInBounds b (.map (es.eraseIdxIfInBounds i) clk) },?_,⟨_,clk,(heap_set hb).1,stamped_erase hs i,?_⟩,Zca _ _ _⟩
  ·simp only[Builtin.delete_,ZD,ZE,ZG,Sem.run_bind,hu,Result.andThen_ok,hg,hc,hk];simp[setObj,Sem.run,hb]
  ·have dL:i<es.size:=by have:es.size=l.length:=hlen;omega
   unfold Array.eraseIdxIfInBounds;rw[dif_pos dL,Array.toList_eraseIdx,←ZcW,gP,ZcW]
end
end
section
open Go.RowKit Go.Sort Go.Shelf Go.Maps
abbrev ofB(s:ByteArray):List UInt8:=s.data.toList
abbrev toB(l:List UInt8):ByteArray:=⟨l.toArray⟩
theorem ZmY(ss:List ByteArray):(ss.map ofB).map encStr=ss.map Value.string:=by
 rw[List.map_map];rfl
theorem Zih(ss:List (List UInt8)):(ss.map toB).map Value.string=ss.map encStr:=by
 rw[List.map_map];rfl
def ZaS(ss:List ByteArray):List ByteArray:=((ss.map ofB).mergeSort λ x y=>decide (x<=y)).map toB
def Za1(ss:List ByteArray):List ByteArray:=(Lib.compact (ss.map ofB)).map toB
theorem Zb7(ss:List ByteArray):(ZaS ss).length=ss.length:=by simp[ZaS]
theorem Ze7(ss:List ByteArray):(Za1 ss).length<=ss.length:=by
 have:=Lib.compact_length_le (ss.map ofB);simpa [Za1] using this
theorem Zip{w:World}{base:Nat}{v:Value}{ss:List ByteArray}(h:w.ownsRow base 9 1 v ss.length (ss.map Value.string))(hn:ss.length<=1000000000):
  Calls prog 152 #[v] w λ r w'=>r = .returned (.tuple #[])/\w'.ownsRow base 9 1 v (ZaS ss).length ((ZaS ss).map Value.string)/\w.grownBy w' v.ownBlock:=by
 by_cases hv:v = .slice none 0 0
 ·subst hv;refine(AnyM.slices_Sort_string_none Tryz.sort152 none 0 w).mono ?_;rintro _ w' ⟨rfl,rfl⟩;have hl:ss=[]:=by
   rcases h.2 with ⟨_,h0⟩|⟨g,cap,cur,he,_⟩
   ·exact List.length_eq_zero_iff.1 h0
   ·cases he
  subst hl;exact⟨rfl,by simpa [ZaS] using h,⟨rfl,rfl,rfl,ZL _,λ _ _ _=>rfl⟩⟩
 ·rw[←ZmY] at h;obtain⟨g,cap,rfl,Li,hg,eH,ic,hl,hH⟩:=Lib.holds_of_ownsRow h hv;have uM:ss.length=(ss.map ofB).length:=ZM;have hc:=AnyM.slices_Sort_string Tryz.sort152 g 0 cap (ss.map ofB) w hH hg ZP;rw[List.length_map] at hc;refine hc.mono ?_;rintro _ w' ⟨rfl,n,os,rfl⟩;refine⟨rfl,?_,grownBy_sorted _⟩;rcases h.2 with ⟨e0,_⟩|⟨g',cap',cur,he,hb,kf,h1,h2,h3,h4⟩
  ·cases e0
  injection he with e1 _ e3
  injection e1 with e1
  injection e1 with e1
  subst e1 e3;have hs:=ownsRow_sorted (n:=n) (os:=os) (ss:=ss.map ofB) (ts:=(ss.map ofB).mergeSort λ x y=>decide (x<=y)) ZM hb kf (by simpa using h1) h2 h3;rw[←Zih] at hs;have e:(ZaS ss).length=(ss.map ofB).length:=by rw[Zb7];simp
  rw[e];simp only[List.length_map] at hs ⊢;exact hs
theorem Zfv{w:World}{base:Nat}{v:Value}{ss:List ByteArray}(h:w.ownsRow base 9 1 v ss.length (ss.map Value.string))(hn:ss.length<=1000000000):
  Calls prog 156 #[v] w λ r w'=>∃ v',r = .returned v'/\w'.ownsRow base 9 1 v' (Za1 ss).length ((Za1 ss).map Value.string)/\w.grownBy w' v.ownBlock/\v'.ownBlock=v.ownBlock:=by
 by_cases hv:v = .slice none 0 0
 ·subst hv;refine(Any.slices_Compact_string_empty Tryz.lays194 none 0 w).mono ?_;rintro _ w' ⟨rfl,rfl⟩;have hl:ss=[]:=by
   rcases h.2 with ⟨_,h0⟩|⟨g,cap,cur,he,_⟩
   ·exact List.length_eq_zero_iff.1 h0
   ·cases he
  subst hl;exact⟨_,rfl,h,⟨rfl,rfl,rfl,ZL _,λ _ _ _=>rfl⟩,rfl⟩
 ·rw[←ZmY] at h;obtain⟨g,cap,rfl,Li,hg,eH,ic,hl,hH⟩:=Lib.holds_of_ownsRow h hv;have fc:=Lib.compact_length_le (ss.map ofB);have hc:=Any.slices_Compact_string Tryz.lays194 g 0 cap (ss.map ofB) w hH ZP (by simpa using eH);rw[List.length_map] at hc;refine hc.mono ?_;rintro _ w' ⟨rfl,q,rfl⟩;have cB:=Lib.ownsRow_putRow (q:=q) (k:=(Lib.compact (ss.map ofB)).length) (ys:=Lib.compact (ss.map ofB)++List.replicate (ss.length-(Lib.compact (ss.map ofB)).length) []) h (by simp at fc ⊢;omega) (by simpa using fc);rw[List.take_left,←Zih] at cB;refine⟨_,rfl,?_,?_,rfl⟩
  ·have e:(Za1 ss).length=(Lib.compact (ss.map ofB)).length:=by simp[Za1]
   rw[e];exact cB
  ·exact grownBy_sorted (os:=#[]) _
theorem ZmB{w W:World}{b g:Nat}{l:List (ByteArray × Value)}(h:MapKV Value.string W b l)(hl:l.length<=1000000)(hk:∀ p∈l,p.1.size<=1000000)(hg:W.cell? ⟨g,0,none⟩=some (.map (some b)))(eB:g<W.heap.size)(hw:w.heap.size<=W.heap.size):
  Calls prog 111 #[.func (.func 153) #[] #[.pointer (some ⟨g,0,none⟩)]] W λ r w'=>∃ v,r = .returned v/\w'.ownsRow w.heap.size 9 1 v (ZaS (l.map (·.1))).length ((ZaS (l.map (·.1))).map Value.string)/\Below W.heap.size W w':=by
 obtain⟨es,clk,hb,ed,gP⟩:=h;have dL:es.toList.length=l.length:=by have:=congrArg List.length gP;simpa using this
 have lN:∀ x∈es.toList,∃ p∈l,x.key = .string p.1:=λ x hx=>by
  have:(x.key,x.val)∈l.map λ p=>(Value.string p.1,p.2):=by rw[←gP];exact List.mem_map_of_mem hx
  obtain⟨p,hp,he⟩:=List.mem_map.1 this;injection he with he _;exact⟨p,hp,he.symm⟩
 have hu:prog.underlying 9=some .string:=underlying9;have SK:∀ s:ByteArray,s.size<=maxLen->keyOf prog 9 (.string s)=some (.string s.data.toList):=λ s hs=>by
  simp[keyOf,hu,mapKey,hs]
 have fL:∀ x∈es.toList,WideElems.rd (H:=Unit) prog 9 (λ _=>some (.nil,[])) x=some (.string (match x.key with | .string s=>s.data.toList | _=>[]),.nil):=λ x hx=>by
  obtain⟨p,hp,he⟩:=lN x hx;have:=hk p hp;simp[WideElems.rd,he,SK p.1 (by unfold maxLen;omega)]
 have Lw:es.size<=maxLen:=by
  have:es.size=es.toList.length:=ZM;unfold maxLen;omega
 have AO:WideElems.Fit (H:=Unit) prog 9 (λ _=>some (.nil,[])) es clk:=⟨Lw,ed,λ x hx=>⟨_,fL x hx⟩⟩;have cT:W.ownsMap prog 9 (λ _=>some ((.nil:DataW Unit),[])) b es.size (.map ((es.toList.map (WideElems.rg prog 9 (λ _=>some (.nil,[])))).foldr DataW.insert [])):=⟨es,clk,hb,AO,ZL _,rfl⟩;have yJ:(strKeys (.map ((es.toList.map (WideElems.rg (H:=Unit) prog 9 (λ _=>some (.nil,[])))).foldr DataW.insert []))).Perm ((l.map (·.1)).map ofB):=by
  refine((Go.WideShapes.sorted_perm _).map _).trans ?_;have e:((es.toList.map (WideElems.rg (H:=Unit) prog 9 (λ _=>some (.nil,[])))).map λ p=>strOf p.1)=(l.map (·.1)).map ofB:=by
   have h1:((es.toList.map (WideElems.rg (H:=Unit) prog 9 (λ _=>some (.nil,[])))).map λ p=>strOf p.1)=(es.toList.map (λ e=>(e.key,e.val))).map λ p=>(match p.1 with | .string s=>s.data.toList | _=>[]):=by
    rw[List.map_map,List.map_map];refine List.map_congr_left λ x hx=>?_
    simp only[Function.comp,WideElems.rg_of (fL x hx),strOf]
   rw[h1,gP,List.map_map,List.map_map];rfl
  rw[e]
 have ku:Maps.size (.map ((es.toList.map (WideElems.rg (H:=Unit) prog 9 (λ _=>some (.nil,[])))).foldr DataW.insert []))=l.length:=by
  rw[Maps.size_eq,(Go.WideShapes.sorted_perm _).length_eq,List.length_map,dL]
 have Bi:SeqGives Fence.wide 2 prog 153 #[.pointer (some ⟨g,0,none⟩)] encStr (λ ss=>ss.Perm (strKeys (.map ((es.toList.map (WideElems.rg (H:=Unit) prog 9 (λ _=>some (.nil,[])))).foldr DataW.insert [])))) (Maps.size (.map ((es.toList.map (WideElems.rg (H:=Unit) prog 9 (λ _=>some (.nil,[])))).foldr DataW.insert []))) W :=
  AnyZ.keys_gives (ρ := Tryz.keys112_ren) { Tryz.keys112 with } Fence.wide _ trivial rfl ZO g b es.size _ W eB hg cT
 have pW:∀ m,AnyZ.SortsIn prog Tryz.sorted111_ren Fence.wide m:=λ m =>
  ⟨λ blk off cap ss W hH bY dL=>callsIn_wide.2 (AnyM.slices_Sort_string Tryz.sort152 blk off cap ss W hH bY dL),
   λ p cap W=>callsIn_wide.2 (AnyM.slices_Sort_string_none Tryz.sort152 p cap W)⟩
 have hc:=AnyZ.sorted_in Tryz.sorted111 Fence.wide 5 trivial trivial trivial trivial rfl ZO (pW _) (enters_of func152 ZK rfl) 153 #[.pointer (some ⟨g,0,none⟩)] trivial (enters_of func153 ZK rfl) _ _ (by rw[ku];unfold maxLen;omega) (by rw[ku];omega) _ Bi;refine((callsIn_wide (n:=5)).1 hc).mono ?_;rintro r w' ⟨v,ss,rfl,hp,hr,_,bW⟩;have he:(ss.mergeSort λ x y=>decide (x<=y))=(((l.map (·.1)).map ofB).mergeSort λ x y=>decide (x<=y)):=mergeSort_of_perm (hp.trans yJ);refine⟨v,rfl,?_,bW⟩;have hlen:(ZaS (l.map (·.1))).length=ss.length:=by
  rw[Zb7,(hp.trans yJ).length_eq];simp
 rw[hlen];unfold ZaS;rw[Zih,←he];exact Zi hr hw
end
section
def Zce(ws:List Ev)(key:ByteArray)(nF:Nat):List Ev:=ws.filter λ e=>decide (e.key=key)&&decide (e.label=nF)
def Zm(ws:List Ev)(key:ByteArray)(nF:Nat):List Ev:=(Zce ws key nF).filter λ e=>decide (e.kind=3)
def Z0(ws:List Ev)(key:ByteArray)(nF:Nat):List Ev:=(Zce ws key nF).filter λ e => !decide (e.kind=3)
def ZdJ(es:List Ev):List (Int × Int):=es.map λ e=>((e.height:Int),(e.r:Int))
def Zlm(xs:List (Int × Int)):Nat:=xs.findIdx λ x=>x==ZfW xs xs.length
theorem IsLast.eq{xs:List (Int × Int)}{k:Nat}(h:IsLast xs k):Zlm xs=k:=by
 obtain⟨h1,h2,h3⟩:=h;have h0:0<xs.length:=ZO;obtain⟨j,hj,ej⟩:=Zib xs h0 xs.length (ZL _);have e:xs.getD k (0,0)=ZfW xs xs.length:=by
  refine Znn _ _ ?_ (Zic xs xs.length (ZL _) k h1);rw[←ej];exact h2 j hj
 unfold Zlm;rw[List.findIdx_eq h1];have gd:∀ i (hi:i<xs.length),xs.getD i (0,0)=xs[i]:=λ i hi=>by simp[List.getD,hi]
 refine⟨?_,λ i hi=>?_⟩
 ·rw[←gd k h1,e];simp
 ·have:=h3 i hi;rw[e,gd i ZO] at this;simpa using this
def Zck(ws:List Ev)(key:ByteArray)(nF:Nat):ByteArray:=((Zm ws key nF)[Zlm (ZdJ (Zm ws key nF))]?.map (·.value)).getD ⟨#[]⟩
def Zhy(ws:List Ev)(key:ByteArray)(nF:Nat):List ByteArray:=Za1 (ZaS ((Z0 ws key nF).map (·.value)))
def ZdD(ws:List Ev)(key:ByteArray)(nF:Nat):Bool:=decide (0<(Zm ws key nF).length)
def Zbd(key:ByteArray)(ws:List Ev):Con:=⟨key,ZdD ws key 0,ZdD ws key 1,Zck ws key 0,Zck ws key 1,Zhy ws key 0,Zhy ws key 1⟩
def Zbb(key:ByteArray)(ws:List Ev):Nat->Con
 | 0=>⟨key,false,false,⟨#[]⟩,⟨#[]⟩,[],[]⟩
 | 1=>⟨key,ZdD ws key 0,false,Zck ws key 0,⟨#[]⟩,Zhy ws key 0,[]⟩
 | _=>Zbd key ws
theorem ZgW{ws:List Ev}{key:ByteArray}{nF:Nat}(h:Zm ws key nF=[]):Zck ws key nF=⟨#[]⟩:=by simp[Zck,h]
def Zbk(es:List Ev):List Value:=es.flatMap λ e=>[.int .i64 (e.height:Int),.int .i64 (e.r:Int)]
def ZbA(es:List Ev):List Value:=es.map λ e=>Value.string e.value
theorem ZmC(es:List Ev):(Zbk es).length=es.length*2:=by
 induction es with
 | nil=>rfl
 | cons e es ih=>simp only[Zbk,List.flatMap_cons,ZI,List.length_cons,List.length_nil] at ih ⊢;omega
section
variable {w w':World}{B B':Nat}{e e':TypeId}{sz MU n n':Nat}{v v' v7:Value}{xs MY:List Value}{r:Option Nat}
theorem Zbs(h:w.ownsRow B e sz v n xs)(h':w.ownsRow B' e' MU v' n' MY)(dz:e≠e'):Apart v v':=by
 intro g hg kf;rcases h.2 with ⟨h0,_⟩|⟨g1,c1,DW,h1,_,bS,_⟩
 ·subst h0;cases hg
 rcases h'.2 with ⟨R8,_⟩|⟨g2,c2,cur2,h2,_,bW,_⟩
 ·subst R8;cases kf
 subst h1 h2;injection hg with hg;injection kf with kf;subst hg;subst kf;rw[bS] at bW;injection bW with bW;injection bW with _ bW _;exact dz bW
theorem Apart.symm(h:Apart v v'):Apart v' v:=λ g h1 h2=>h g h2 h1
theorem ZaX(h:w.ownsRow B e sz v n xs)(hg:w.grownBy w' v'.ownBlock)(ha:Apart v v'):w'.ownsRow B e sz v n xs :=
 Zh h λ g kf hl=>hg.block g hl λ he=>ha g kf he.symm
theorem ZeI(ha:Apart v v')(h':w.ownsRow B e sz v' n xs)(iL:v7.ownBlock=v.ownBlock∨v7.ownBlock=some w.heap.size):Apart v7 v':=by
 intro g hg kf;rcases iL with h | h
 ·exact ha g (h.symm.trans hg) kf
 ·rw[h] at hg;injection hg with hg;have:=(Zb h' kf).2;omega
theorem ZgO(k c:Nat)(v':Value):Apart (.slice none k c) v':=λ g h=>by cases h
theorem ZcP{g:Nat}{t:TypeId}{cs:Array Value}(hb:Blk w g t cs)(h:w.ownsRow B e sz v n xs)(dz:e≠t)(hg:w.grownBy w' v.ownBlock):Blk w' g t cs :=
 hb.grown hg (Ne.symm (Zo h hb dz))
end
structure Past(B pc:Nat)(w w':World):Prop where
 os:w'.os=w.os
 tape:w'.tape=w.tape
 output:w'.output=w.output
 size:w.heap.size<=w'.heap.size
 block:∀ k,k<B->k≠pc->w'.heap[k]? = w.heap[k]?
section
variable {B pc:Nat}{w w1 w':World}
theorem Past.bd(h:Kept B w w')(hs:w.heap.size<=w'.heap.size):Past B pc w w':=⟨h.below.os,h.below.tape,h.below.output,hs,λ k hk _=>h.below.block k hk⟩
theorem Past.set(h:Past B pc w w1)(i:Nat)(u:Value):Past B pc w (w1.setCell ⟨pc,i,none⟩ u) :=
 ⟨h.os,h.tape,h.output,by simpa [World.setCell] using h.size,λ k hk hn=>(Below.heap_setCell _ _ _ _ hn).trans (h.block k hk hn)⟩
theorem Past.grown(h:Past B pc w w1){r:Option Nat}(hg:w1.grownBy w' r)(hB:B<=w1.heap.size)(hr:∀ g,r=some g->B<=g):Past B pc w w' :=
 ⟨hg.os.trans h.os,hg.tape.trans h.tape,hg.output.trans h.output,ZT h.size hg.size,λ k hk hn=>(hg.block k (ZR hk hB) (λ e=>by have:=hr k e.symm;omega)).trans (h.block k hk hn)⟩
theorem Past.below(h:Past B pc w w1)(hb:Below w1.heap.size w1 w')(hB:B<=w1.heap.size):Past B pc w w':=h.grown (r:=none) ⟨hb.os,hb.tape,hb.output,hb.size,λ k hk _=>hb.block k hk⟩ hB (λ g e=>by cases e)
theorem Past.kept{A:Nat}{w0:World}(h:Past B pc w w')(hk:Kept A w0 w)(hA:A<=B)(hp:A<=pc):Kept A w0 w' :=
 ⟨⟨h.os.trans hk.below.os,h.tape.trans hk.below.tape,h.output.trans hk.below.output,ZT hk.below.size h.size,λ k jB=>(h.block k ZO ZO).trans (hk.below.block k jB)⟩,ZT hk.le h.size⟩
theorem Past.row{A:Nat}{e:TypeId}{sz n:Nat}{v:Value}{xs:List Value}(h:Past B pc w w')(hr:w.ownsRow A e sz v n xs)(hB:w.heap.size<=B){t:TypeId}{cs:Array Value}(hb:Blk w pc t cs)(dz:e≠t):w'.ownsRow A e sz v n xs :=
 Zh hr λ g hg hl=>h.block g ZO (λ e'=>Zo hr hb dz (by rw[hg,e']))
theorem Past.blk{g:Nat}{t:TypeId}{cs:Array Value}(h:Past B pc w w')(hb:Blk w g t cs)(hB:w.heap.size<=B)(dz:g≠pc):Blk w' g t cs:=(h.block g (by have:=hb.lt;omega) dz).trans hb
end
end
def ZcS(l:List (Nat × Nat)):List Value:=l.flatMap λ p=>[.int .i64 (p.1:Int),.int .i64 (p.2:Int)]
def ZdP(es:List Ev):List (Nat × Nat):=es.map λ e=>(e.r,e.n)
theorem Zs{w:World}{B n:Nat}{e:TypeId}{sz:Nat}{v:Value}{xs:List Value}(h:w.ownsRow B e sz v n xs):∃ a c,v = .slice a n c:=by
 rcases h.2 with ⟨h1,h2⟩|⟨g,cp,_,h1,_⟩
 ·exact⟨none,0,by rw[h2];exact h1⟩
 ·exact⟨_,cp,h1⟩
theorem ZrW:(prog.info? 161).map (λ i=>(i.zero,i.size,i.bytes))=some (some (.agg #[.int .i64 0,.int .i64 0]),2,16):=ZK
theorem ZiV{w:World}{a:Option Addr}{n cap:Nat}{es:List Ev}(hs:EvSl w a n cap es)(hn:n<=1000000):
  Calls prog 77 #[.slice a n cap] w λ r w'=>∃ v,r = .returned v/\w'.ownsRow w.heap.size 161 2 v n (ZcS (ZdP es))/\Below w.heap.size w w':=by
 obtain⟨i0,hi,cM,cG,cK⟩:=info_parts ZrW;obtain⟨fE,HS⟩:=ZH2 (hs.2.2.1) hs;have HO:Hid (w.ownsRow w.heap.size 161 2 (.slice none 0 0) 0 (ZcS (ZdP (es.take 0)))):=ZH ⟨rfl,.inl ⟨rfl,rfl⟩⟩;have HK:=ZH (ZKr w);clear hs;go_enter func77,ntmps77;go_wp2_with fail;go_loopw [3,8] (λ v i wr=>∃ q:Nat,q<=n/\i = .int .i64 q/\Hid (wr.ownsRow w.heap.size 161 2 v q (ZcS (ZdP (es.take q))))/\Hid (Kept w.heap.size w wr)) (λ _ i _=>n-(intOf i).toNat)
 case atStart=>exact⟨0,ZO,rfl,HO,HK⟩
 case round =>
  clear HO HK;obtain⟨q,hq,rfl,HO,HK⟩:=hrel;obtain⟨av,cv,rfl⟩:=Zs HO.out;by_cases dy:q<n
  ·obtain⟨e,he⟩:∃ e,es[q]? = some e:=⟨_,ZX (by rw[fE.out];exact dy)⟩;have ig:=HS.out.below HK.out.below;obtain⟨bk,off,rfl,cQ,c0,c1,c2,c3,c4,c5,c6,c7,c8,c9,cP,cR⟩:=ig.at_ he;have it:ZcS (ZdP (es.take (q+1)))=ZcS (ZdP (es.take q))++[.int .i64 (e.r:Int),.int .i64 (e.n:Int)]:=by
    rw[Zag he];simp[ZdP,ZcS]
   have hx:=ZBn wr 89 (evArr e);obtain⟨x0,x1,x2,x3,x4,x5,x6,x7,x8,x9,eE,eG⟩:=hx.ae;have jG:=ZH ((HO.out.alloc (.cells (evArr e) 89)).alloc (.cells #[.int .i64 (e.r:Int),.int .i64 (e.n:Int)] 161));have cJ:=(HK.out.alloc (.cells (evArr e) 89)).alloc (.cells #[.int .i64 (e.r:Int),.int .i64 (e.n:Int)] 161);have iH:Hid (Reads ((wr.alloc (.cells (evArr e) 89)).alloc (.cells #[.int .i64 (e.r:Int),.int .i64 (e.n:Int)] 161)) _ 2 (some ⟨wr.heap.size+1,0,none⟩) 1 [.int .i64 (e.r:Int),.int .i64 (e.n:Int)]):=ZH (Reads.ao (Z6 wr _ _ _) rfl);have fc:=cJ.le;obtain⟨eI,cr⟩:=ZH2 it cJ
   have iz:Hid (∀ u∈[Value.int .i64 (e.r:Int),.int .i64 (e.n:Int)],u.oneCell'=true):=ZH (λ u hu=>by
    simp at hu
    rcases hu with rfl | rfl <;> rfl)
   clear ig he it hx cJ
   go_wp2_with (first
    |(at_builtin
      refine Zc _ rfl (.tmp 12) (.tmp 18) _ rfl w.heap.size 161 i0 _ 2 16 underlying45 hi cM cG cK rfl ZO (.slice av q cv) q (ZcS (ZdP (es.take q))) rfl jG.out _ (some ⟨wr.heap.size+1,0,none⟩) 1 1 [.int .i64 (e.r:Int),.int .i64 (e.n:Int)] rfl iH.out iz.out ZF ZO fc ?_;intro v7 w7 bX cN _;rw[←eI.out] at bX;have fd:Hid (Kept w.heap.size w w7):=ZH (⟨cr.out.below.grown cN cr.out.le (λ g hg=>(Zb jG.out hg).1),ZT cr.out.le cN.size⟩);have gW:=ZH bX
      clear bX cN ))
   go_roundw
   case rel=>exact⟨q+1,ZO,ZN,gW,fd⟩
   case measure=>simp[intOf];omega
  ·obtain rfl:q=n:=ZO;rw[ZU (by rw[fE.out];exact ZL _)] at HO;go_wp2
   go_ret;exact⟨_,rfl,HO.out,HK.out.below⟩
end Go.Proofs.YtjkfognelhiepaaGreat
