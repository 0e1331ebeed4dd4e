import Derived.Test.YtjkfognelhiepaaGreatC11
namespace Go.Proofs.YtjkfognelhiepaaGreat
open Go.RowKit _root_.Go.Proofs.Tryz
set_option maxRecDepth 100000
set_option maxHeartbeats 8000000
theorem Zfo{f:Frm}(h:f.Ok){a:Option Addr}{n cap:Nat}{w:World}(hs:EvSl w a n cap f.events):Calls prog 74 #[Z8 f (.slice a n cap)] w λ r w'=>∃ v,r = .returned (.tuple #[v,.int .i64 0])/\w'.ownsRow w.heap.size 5 1 v (Zk f).length (cells (Zk f))/\Below w.heap.size w w':=by
 have h1:=h.kind1;have h5:=h.kind5;rcases(by omega:f.kind=1∨f.kind=2∨f.kind=3∨f.kind=4∨f.kind=5) with hk | hk | hk | hk | hk
 ·exact Znw h hk hs
 ·exact Znx h hk hs
 ·exact Zny h hk hs
 ·exact Znz h hk hs
 ·exact ZnA h hk hs
theorem Zfc{w:World}{a:Option Addr}{n cap:Nat}{l:List Nat}(h:Bytes w a n cap l)(hs:∀ x∈l,x<256)(m:Nat)(hm:m<=1048576)(rest:List Nat)(hl:l=Zd m++rest):
  Calls prog 175 #[.slice a n cap] w (Zv (.tuple #[.int .i64 m,.int .i64 (Zd m).length,.bool true]) w):=by
 have gE:=ZH (ZcD h hs);have fT:=ZcE m rest ZO;rw[←hl] at fT;have PG:IntKind.i64.wrap (m:Int)=(m:Int):=IntWalk.i64_in _ ZO;have hd:¬ ((1048576:Int)<(m:Int)):=ZO;have ld:=ZH fT;clear fT h hs hl;generalize (Zd m).length=k at *;go_enter func175,ntmps175;go_wp2_with fail;refine gE.out.mono ?_;rintro e w1 hP;obtain⟨rfl,rfl⟩:e = .returned (.tuple #[.int .u64 m,.int .i64 k,.int .i64 ((0:Nat):Int)])/\w=w1:=by
  have fR:=hP;unfold ZaQ at fR;rw[ld.out] at fR;exact fR
 clear hP;go_wp2_with fail;go_ret3
 exact⟨rfl,ZW _ _⟩
theorem Bytes.rest{w:World}{b off n cap:Nat}{l:List Nat}(h:Bytes w (some ⟨b,off,none⟩) n cap l){k:Nat}(hk:k<=n):Bytes w (if cap=k then some ⟨b,off,none⟩ else some ⟨b,off+k,none⟩) (n-k) (cap-k) (l.drop k):=by
 have hlen:=h.len;have h1:=h.1;have h2:=h.2.1;rcases Nat.lt_or_ge k n with ce | my
 ·obtain⟨b',MM,he,hd⟩:=h.drop ce;injection he with he;injection he with fl oZ;subst fl oZ;rw[if_neg ZO];exact hd
 ·refine⟨ZO,ZO,.inl ⟨ZO,List.drop_of_length_le ZO⟩⟩
theorem Zkw{w:World}{a:Option Addr}{n cap:Nat}{l:List Nat}(h:Bytes w a n cap l)(rest:List Nat)(hl:l=0::rest):
  Calls prog 174 #[.slice a n cap] w λ r w'=>r = .returned (.tuple #[.slice none 0 0,.bool true])/\Below w.heap.size w w':=by
 have eR:=h.len;have qB:1<=n:=by
  rw[←eR,hl];simp
 obtain⟨b,off,rfl,hb,hc⟩:=h.pos ZO;have c0:=hc 0 ZO;rw[show l.getD 0 0=0 by rw[hl];rfl,Nat.add_zero] at c0;have fZ:=h.1;have SS:(1:Int)<=(n:Int):=ZO;have AF:(1:Int)<=(cap:Int):=ZO;have fJ:((n:Int)==0)=false:=ZP;have HK:=ZH (ZKr w);clear h hl hc;go_enter func174,ntmps174;go_wp2_with fail
 all_goals
  go_loopw [4,19] (λ v i wr=>v = .slice none 0 0/\i = .int .i64 0/\Hid (Kept w.heap.size w wr)) (λ _ _ _=>0)
  case atStart=>exact⟨rfl,rfl,HK⟩
  case round =>
   obtain⟨rfl,rfl,db⟩:=hrel;go_wp2_with fail;go_ret2
   exact⟨rfl,db.out.below⟩
theorem Zkx{w:World}{a:Option Addr}{n cap:Nat}{l:List Nat}(h:Bytes w a n cap l)(hs:∀ x∈l,x<256)(hn:n<=1000000)(es:List Ev)(gP:∀ e∈es,e.Ok)(hlen:es.length<=20)(eL:1<=es.length)(rest:List Nat)(hl:l=es.length::Zg es++rest):
  Calls prog 174 #[.slice a n cap] w λ r w'=>∃ v,r = .returned (.tuple #[v,.bool true])/\w'.ownsRow w.heap.size 89 12 v es.length (evCells es)/\Below w.heap.size w w':=by
 have eR:=h.len;have qB:1<=n:=by
  rw[←eR,hl];simp
 obtain⟨b,off,rfl,hb,hc⟩:=h.pos ZO;have c0:=hc 0 ZO;rw[show l.getD 0 0=es.length by rw[hl];rfl,Nat.add_zero] at c0;have eh:=h.rest (k:=1) qB;rw[show l.drop 1=Zg (es.drop 0)++rest by rw[hl];rfl] at eh;have fZ:=h.1;obtain⟨i0,hi,cM,cG,cK⟩:=info_parts Zbv;have HO:Hid (w.ownsRow w.heap.size 89 12 (.slice none 0 0) (es.take 0).length (evCells (es.take 0))):=ZH (⟨rfl,.inl ⟨rfl,rfl⟩⟩);have cI:∀ x∈Zg es++rest,x<256:=λ x hx=>hs x (by rw[hl];exact List.mem_cons_of_mem _ hx)
 obtain⟨HB,Je,gx,HK⟩:=ZH4 eh gP cI (ZKr w);have SS:(1:Int)<=(n:Int):=ZO;have AF:(1:Int)<=(cap:Int):=ZO;have EM:¬ cap=1:=by
  have h1:1<=(Zg es).length:=by
   rcases es with _ | ⟨e,es⟩
   ·simp at eL
   ·show 1<=(evBytes e++Zg es).length
    unfold evBytes;simp only[ZI,List.length_cons];omega
  have h2:l.length=1+(Zg es).length+rest.length:=by rw[hl];simp;omega
  omega
 have fJ:((n:Int)==0)=false:=ZP;have S6:IntKind.i64.wrap (es.length:Int)=(es.length:Int):=IntWalk.i64_in _ ZO;clear h hs hl eh gP hc cI;go_enter func174,ntmps174;go_wp2_with fail
 all_goals
  go_loopw [0,4,19] (λ v0 v4 i wr=>∃ (q:Nat) (A:Option Addr) (n' C':Nat),q<=es.length/\i = .int .i64 q/\v0 = .slice A n' C'/\n'<=1000000/\Hid (Bytes w A n' C' (Zg (es.drop q)++rest))/\Hid (wr.ownsRow w.heap.size 89 12 v4 (es.take q).length (evCells (es.take q)))/\Hid (Kept w.heap.size w wr)) (λ _ _ i _=>es.length-(intOf i).toNat)
  case atStart=>exact⟨0,_,_,_,ZO,rfl,rfl,ZO,by have h:=HB.out;rw[if_neg EM] at h;exact ZH h,HO,HK⟩
  case round =>
   obtain⟨q,A,n',C',hq,rfl,rfl,Ce,su,HOr,db⟩:=hrel;by_cases dy:q<es.length
   ·obtain⟨e,he⟩:∃ e,es[q]? = some e:=⟨_,ZX dy⟩;have dM:=Je.out e (ZY he);have kT:es.drop q=e::es.drop (q+1):=by
     rw[List.drop_eq_getElem_cons dy];congr 1;rw[ZX dy] at he;injection he
    have dO:Zg (es.drop q)++rest=evBytes e++(Zg (es.drop (q+1))++rest):=by
     rw[kT];show evBytes e++Zg (es.drop (q+1))++rest=_
     rw[List.append_assoc]
    have oH:=su.out.len;have jB:(evBytes e).length<=n':=by
     rw[←oH,dO,ZI];omega
    have eL:1<=(evBytes e).length:=by
     unfold evBytes;simp only[ZI,List.length_cons];omega
    have t8:∀ x∈Zg (es.drop q)++rest,x<256:=λ x hx=>by
     rw[List.mem_append] at hx;rcases hx with hx | hx
     ·refine gx.out x (List.mem_append_left _ ?_);have e1:Zg es=Zg (es.take q)++Zg (es.drop q):=by
       unfold Zg;rw[←List.flatMap_append,List.take_append_drop]
      rw[e1];exact List.mem_append_right _ hx
     ·exact gx.out x (List.mem_append_right _ hx)
    have gE:=ZH (ZiJ (su.out.kept db.out.below (ZL _)) t8 Ce e dM (Zg (es.drop (q+1))++rest) dO);obtain⟨bb,oo,rfl,Lf,_⟩:=su.out.pos ZO;have cU:=su.out.rest jB;rw[dO,List.drop_left] at cU;have Sj:=su.out.1;obtain⟨av,cv,rfl,_⟩:=EvSl.ab HOr.out;obtain⟨eI,ga⟩:=ZH2 (Zag he) cU;clear cU dO kT he dM t8 oH;obtain⟨M,hM⟩:∃ M,M=(es.take q).length:=⟨_,rfl⟩;have ti:M<=20:=by rw[hM,ZV];omega
    rw[←hM] at HOr ⊢;have HM:=ZH hM;clear hM;obtain⟨k,hk⟩:∃ k,k=(evBytes e).length:=⟨_,rfl⟩;rw[←hk] at gE ga jB eL;clear hk;have jC:(k:Int)<=(n':Int):=ZO;have yt:(k:Int)<=(C':Int):=ZO;have cA:(0:Int)<=(k:Int):=ZO;go_wp2_with fail;refine gE.out.mono ?_;rintro _ w3 ⟨rfl,bZ⟩;have xY:=(Ze HOr.out bZ).alloc (.cells (evArr e) 89);have kE:=(db.out.step bZ).alloc (.cells (evArr e) 89);have hx:=ZBn w3 89 (evArr e);obtain⟨x0,x1,x2,x3,x4,x5,x6,x7,x8,x9,eE,eG⟩:=hx.ae;have dt:=ZH (xY.alloc (.cells (evArr e) 89));have mI:=kE.alloc (.cells (evArr e) 89);have oF:=mI.le;have cZ:=ZH mI;clear xY kE mI hx bZ
    go_wp2_with (first
     |(at_builtin
       refine Zc _ rfl (.tmp 29) (.tmp 31) _ rfl w.heap.size 89 i0 _ 12 112 underlying128 hi cM cG cK rfl ZO (.slice av M cv) M (evCells (es.take q)) rfl dt.out (w3.heap.size+1+1) (some ⟨w3.heap.size+1,0,none⟩) 1 1 (evArr e).toList rfl (ZdR _ _ _) (ZaK e) ZF ZO oF ?_;intro v7 w7 bX cN _;have gM:w7.ownsRow w.heap.size 89 12 v7 (es.take (q+1)).length (evCells (es.take (q+1))):=by
        rw[eI.out];have h:=bX;rw[HM.out] at h;exact RowE.snoc h
       have fd:Hid (Kept w.heap.size w w7):=ZH (⟨cZ.out.below.grown cN cZ.out.le (λ g hg=>(Zb dt.out hg).1),ZT cZ.out.le cN.size⟩);have gW:=ZH gM
       clear bX gM cN))
    go_roundw
    case rel=>exact⟨q+1,_,_,_,ZO,ZN,rfl,ZO,ga,gW,fd⟩
    case measure=>simp[intOf];omega
   ·obtain rfl:q=es.length:=ZO;rw[List.take_length] at HOr;obtain⟨av,cv,rfl,_⟩:=EvSl.ab HOr.out;go_wp2_with fail;go_ret2
    exact⟨_,rfl,HOr.out,db.out.below⟩
theorem ZgZ{w:World}{a:Option Addr}{n cap:Nat}{l:List Nat}(h:Bytes w a n cap l)(hs:∀ x∈l,x<256)(hn:n<=1000000)(es:List Ev)(gP:∀ e∈es,e.Ok)(hlen:es.length<=20)(rest:List Nat)(hl:l=es.length::Zg es++rest):
  Calls prog 174 #[.slice a n cap] w λ r w'=>∃ v,r = .returned (.tuple #[v,.bool true])/\w'.ownsRow w.heap.size 89 12 v es.length (evCells es)/\Below w.heap.size w w':=by
 rcases Nat.eq_zero_or_pos es.length with h0 | h1
 ·have he:es=[]:=List.eq_nil_of_length_eq_zero h0;subst he;refine(Zkw h rest (by rw[hl];rfl)).mono ?_;rintro _ w' ⟨rfl,hb⟩;exact⟨_,rfl,⟨rfl,.inl ⟨rfl,rfl⟩⟩,hb⟩
 ·exact Zkx h hs hn es gP hlen h1 rest hl
def ZfD(c:Clk):Nat->Clk
 | 0=>ZCz
 | j+1=>(ZfD c j).set j (c.get j)
theorem Ze6(c:Clk):ZfD c 5=c:=rfl
theorem Zl7(c:Clk){j:Nat}(h:j<=5):∃ S,Zw c 5=Zw c j++S:=by
 rcases(by omega:j=0∨j=1∨j=2∨j=3∨j=4∨j=5) with rfl | rfl | rfl | rfl | rfl | rfl
 ·exact⟨_,rfl⟩
 ·exact⟨Zd (c.get 1)++Zd (c.get 2)++Zd (c.get 3)++Zd (c.get 4),by simp[Zw]⟩
 ·exact⟨Zd (c.get 2)++Zd (c.get 3)++Zd (c.get 4),by simp[Zw]⟩
 ·exact⟨Zd (c.get 3)++Zd (c.get 4),by simp[Zw]⟩
 ·exact⟨Zd (c.get 4),by simp[Zw]⟩
 ·exact⟨[],ZM⟩
theorem Zf1(c:Clk){j:Nat}(h:j<5):(Zw c 5).drop (Zw c j).length=Zd (c.get j)++(Zw c 5).drop (Zw c (j+1)).length:=by
 obtain⟨S,hS⟩:=Zl7 c (j:=j+1) h;have h2:Zw c 5=Zw c j++(Zd (c.get j)++S):=by
  rw[hS];simp[Zw]
 have e1:(Zw c 5).drop (Zw c j).length=Zd (c.get j)++S:=by rw[h2,List.drop_left]
 have e2:(Zw c 5).drop (Zw c (j+1)).length=S:=by rw[hS,List.drop_left]
 rw[e1,e2]
theorem Zf7(k r u:Nat)(c:Clk)(es:List Ev)(v:Value){j:Nat}(h:j<5)(x:Nat):(Za ⟨k,r,u,c,es⟩ v).setIfInBounds (3+j) (.int .i64 (x:Int))=Za ⟨k,r,u,c.set j x,es⟩ v:=by
 rcases(by omega:j=0∨j=1∨j=2∨j=3∨j=4) with rfl | rfl | rfl | rfl | rfl <;> rfl
theorem Zf6(k r u:Nat)(c:Clk)(es:List Ev)(v:Value){j:Nat}(h:j<5):(Za ⟨k,r,u,c,es⟩ v)[3+j]? = some (.int .i64 (c.get j)):=by
 rcases(by omega:j=0∨j=1∨j=2∨j=3∨j=4) with rfl | rfl | rfl | rfl | rfl <;> rfl
theorem Zap(f:Frm)(v:Value):(prog.info? 158).map (λ i=>i.size)=some (Za f v).size:=ZK
theorem Zbc(f:Frm)(a:Option Addr)(n c:Nat):(Za f (.slice a n c)).all (·.oneCell')=true:=by
 rw[Array.all_eq_true_iff_forall_mem];intro v hv;simp at hv;rcases hv with rfl | rfl | rfl | rfl | rfl | rfl | rfl | rfl | rfl <;> rfl
theorem Zfd(P T:List Nat)(x y:Nat):(P++x::y::T).getD P.length 0=x/\(P++x::y::T).getD (P.length+1) 0=y/\(P++x::y::T).drop (P.length+2)=T:=by
 refine⟨?_,?_,?_⟩
 ·rw[List.getD_eq_getElem?_getD,List.getElem?_append_right (ZL _)];simp
 ·rw[List.getD_eq_getElem?_getD,List.getElem?_append_right ZO,show P.length+1-P.length=1 by omega];rfl
 ·rw[←List.drop_drop,List.drop_left];rfl
theorem Zmf{f:Frm}(h:f.Ok)(dF:f.kind=2){a:Option Addr}{n cap:Nat}{l:List Nat}{w:World}(hb:Bytes w a n cap l)(hl:l=Zd (Zad f).length++Zad f):
  Calls prog 137 #[.slice a n cap] w λ r w'=>∃ v,r = .returned (.tuple #[Z8 f v,.bool true])/\w'.ownsRow w.heap.size 89 12 v f.events.length (evCells f.events)/\Below w.heap.size w w':=by
 have cI:∀ x∈l,x<256:=λ x hx=>by
  rw[hl,List.mem_append] at hx;rcases hx with hx | hx
  ·exact Zay _ x hx
  ·exact Za4 h x hx
 have cQ:=Zbp h;obtain⟨kind,r,upto,clock,events⟩:=f;simp only[] at dF;subst dF;have hr:=h.r;have dJ:=h.upto;have fC:=h.len;simp only[] at hr dJ fC;have dW:clock=ZCz:=h.clock0 ZM ZM;have kd:events=[]:=h.events0 ZM ZM;subst dW kd;obtain⟨T,hT⟩:∃ T,T=(Zd upto):=⟨_,rfl⟩;obtain⟨BD,mY⟩:∃ BD,BD=Zad ⟨2,r,upto,ZCz,[]⟩:=⟨_,rfl⟩;have dZ:BD=2::r::T:=by rw[mY,hT];rfl
 rw[←mY] at hl cQ;have ux:1<=T.length:=by
  rw[hT];first | exact Z4 _ | (have:=Z4 (clock.get 4);simp only[Zw,ZI];omega)|(simp)
 have oh:BD.length=T.length+2:=by rw[dZ];rfl
 have uy:T.length<=1298:=ZO;have eR:=hb.len;have kj:(Zd BD.length).length+(2+T.length)=n:=by
  rw[←eR,hl,ZI,oh];omega
 obtain⟨b,off,rfl,bY,bU⟩:=hb.pos ZO;have fZ:=hb.1;have bS:=hb.kept ((ZW w.heap.size w).alloc (ZL _) (.cells (Za ⟨0,0,0,ZCz,[]⟩ (.slice none 0 0)) 158)) (ZL _);have gE:=ZH (ZcD bS cI);have fT:=ZcE BD.length BD ZO;rw[←hl] at fT;have fQ:=Z3 2 BD.length ZO;obtain⟨g1,g2,g3⟩:=Zfd (Zd BD.length) T 2 r;rw[←dZ,←hl] at g1 g2 g3;obtain⟨k,hk⟩:∃ k,k=(Zd BD.length).length:=⟨_,rfl⟩;rw[←hk] at g1 g2 g3 fT kj fQ;have k0:=bU k ZO;have k1:=bU (k+1) ZO;rw[g1] at k0;rw[g2] at k1;have cU:=hb.rest (k:=k+2) ZO;rw[if_neg ZO,g3] at cU;have gc:∀ x∈T,x<256:=λ x hx=>cI x (by rw[←g3] at hx;exact List.mem_of_mem_drop hx)
 obtain⟨H,ld,ga,HT,er⟩:=ZH5 h fT cU hT gc;have km:(k:Int)<(n:Int):=ZO;have kL:(k:Int)+1<(n:Int):=ZO;have kM:(k:Int)+2<=(n:Int):=ZO;have kN:(k:Int)+2<=(cap:Int):=ZO;have cA:(0:Int)<=(k:Int):=ZO;have dE:(0:Int)<=(k:Int)+1:=ZO;have cJ:(0:Int)<=(k:Int)+2:=ZO;have xd:((k:Int)+1).toNat=k+1:=ZO;have Ci:((k:Int)+2).toNat=k+2:=ZO;have iW:IntKind.i64.wrap ((n:Int)-(k:Int))=(n:Int)-(k:Int):=by rw[IntKind.wrap_i64];omega
 have dl:IntKind.i64.wrap ((k:Int)+1)=(k:Int)+1:=by rw[IntKind.wrap_i64];omega
 have dK:IntKind.i64.wrap ((k:Int)+2)=(k:Int)+2:=by rw[IntKind.wrap_i64];omega
 have nD:IntKind.i64.wrap (r:Int)=(r:Int):=by rw[IntKind.wrap_i64];omega
 have iV:¬ ((n:Int)-(k:Int)<2):=ZO;have jx:¬ (cap=k+2):=ZO;clear h hb bS hl fT bU cU cI eR mY hk dZ oh hT g1 g2 g3 gc;go_enter func137,ntmps137;go_wp2_with fail;refine gE.out.mono ?_;rintro e w1 hP;obtain⟨rfl,rfl⟩:e = .returned (.tuple #[.int .u64 (BD.length:Nat),.int .i64 (k:Nat),.int .i64 ((0:Nat):Int)])/\_=w1:=by
  have fR:=hP;unfold ZaQ at fR;rw[ld.out] at fR;exact fR
 clear hP gE;obtain⟨w1,cV⟩:∃ w1,w1=w.alloc (.cells (Za ⟨0,0,0,ZCz,[]⟩ (.slice none 0 0)) 158):=⟨_,rfl⟩;have eA:Kept w.heap.size w w1:=by rw[cV];exact(ZKr w).alloc _
 have gb:Blk w1 w.heap.size 158 (Za ⟨0,0,0,ZCz,[]⟩ (.slice none 0 0)):=by rw[cV];exact ZBn _ _ _
 obtain⟨cE,ez⟩:=ZH2 eA gb;clear eA gb;go_wp2_with fail;rw[←cV];have ms:b<w1.heap.size:=ZR bY cE.out.le;have mB:w1.cell? ⟨b,off+k,none⟩=some (.int .u8 ((2:Nat):Int)):=by rw[cE.out.cells b _ bY];exact k0
 have mC:w1.cell? ⟨b,off+(k+1),none⟩=some (.int .u8 (r:Int)):=by rw[cE.out.cells b _ bY];exact k1
 have ft:=ZH cV;clear cV k0 k1;have uf:IntKind.i64.wrap (2:Int)=2:=by rw[IntKind.wrap_i64];omega
 refine ZSi [(0,3),(1,3),(2,3),(3,0),(4,3),(5,3),(6,3),(7,3),(8,3),(9,0),(10,3),(11,3),(12,1),(13,2)] λ bR=>?_
 repeat((first | refine ZSa ?_ | refine ZSb ?_ | refine ZSc ?_);simp only[Act.put,ZA,ZB,ZC])
 refine ZSd λ K hK=>?_
 go_simp;refine hK.out (λ w'=>Kept w1.heap.size w1 w') _ _ (λ _ h=>h) (bR.alloc _) (λ bT=>?_);clear hK K bR;repeat((first | refine ZSa ?_ | refine ZSb ?_ | refine ZSc ?_);simp only[Act.put,ZA,ZB,ZC])
 refine ZSe λ K hK=>?_
 go_simp;refine hK.out _ _ ?_;clear hK K;refine ZSf ?_;obtain⟨w2,cS⟩:∃ w2,w2=(w1.alloc (.cells (Za ⟨2,r,0,ZCz,[]⟩ (.slice none 0 0)) 158)).drew:=⟨_,rfl⟩;change Exit.then _ _ Exit.normal _ ((w1.alloc (.cells (Za ⟨2,r,0,ZCz,[]⟩ (.slice none 0 0)) 158)).drew);rw[←cS];have fu:Blk w2 w1.heap.size 158 (Za ⟨2,r,0,ZCz,[]⟩ (.slice none 0 0)):=by rw[cS];exact(ZBn _ _ _).drew
 have gm:Kept w.heap.size w w2:=by rw[cS];exact(cE.out.alloc _).drew
 have gI:Blk w2 w.heap.size 158 (Za ⟨0,0,0,ZCz,[]⟩ (.slice none 0 0)):=by rw[cS];exact(ez.out.alloc _).drew
 have nP:w.heap.size<w1.heap.size:=ez.out.lt;obtain⟨c0,c1,c2,c3,c4,c5,c6,c7,c8⟩:=fu.nine;have eY:=fu.lt;obtain⟨iw,cr,eU⟩:=ZH3 fu gm gI;clear fu gm gI cS bT cE ez mB mC;generalize w1.heap.size=G at *;go_wp2_with fail;refine(Zci 2 ZO ZO _).mono ?_;rintro _ w3 ⟨rfl,bZ⟩;rw[show Za8 2 = .agg #[.bool false,.bool true,.bool false] from rfl];obtain⟨iR,ep⟩:=ZH2 ((iw.out.ob bZ).alloc (.cells #[.bool false,.bool true,.bool false] 225)) ((eU.out.ob bZ).alloc (.cells #[.bool false,.bool true,.bool false] 225));have kE:=(cr.out.step bZ).alloc (.cells #[.bool false,.bool true,.bool false] 225);obtain⟨ia,dj⟩:=ZH2 (ZBn w3 225 #[.bool false,.bool true,.bool false]) (ga.out.kept kE.below (ZL _));have i5:=(iw.out.ob bZ).lt;have cC:=ZH kE;clear kE bZ c0 c1 c2 c3 c4 c5 c6 c7 c8 eY;go_wp2_with fail;refine(Zfc dj.out er.out upto dJ [] (by rw[HT.out,List.append_nil])).mono ?_;rintro _ w4 ⟨rfl,cz⟩;have fG:=iR.out.ob cz;obtain⟨c0,c1,c2,c3,c4,c5,c6,c7,c8⟩:=fG.nine;have f2:=fG.frozen 2;have i9:=ZH (ia.out.ob cz);have eY:=fG.lt;obtain⟨fU,cZ⟩:=ZH2 (ep.out.ob cz) (cC.out.step cz);have l6:w.heap.size≠G:=ZO;have vR:w3.heap.size≠G:=ZO;have lY:=ZH fG;clear fG cz;obtain⟨W5,gK⟩:∃ W5,W5=w4.setCell ⟨G,2,none⟩ (.int .i64 (upto:Int)):=⟨_,rfl⟩;have mH:Blk W5 G 158 (Za ⟨2,r,upto,ZCz,[]⟩ (.slice none 0 0)):=by rw[gK];exact lY.out.ai 2 _
 have pG:Blk W5 w3.heap.size 225 #[.bool false,.bool true,.bool false]:=by rw[gK];exact i9.out.far vR _
 have yb:Blk W5 w.heap.size 158 (Za ⟨0,0,0,ZCz,[]⟩ (.slice none 0 0)):=by rw[gK];exact fU.out.far l6 _
 have rZ:Kept w.heap.size w W5:=by rw[gK];exact cZ.out.setCell (by show w.heap.size<=G;omega) _
 obtain⟨d0,d1,d2⟩:=pG.three;obtain⟨x0,x1,x2⟩:=i9.out.three;have rC:=pG.lt;have yA:=i9.out.lt;obtain⟨mD,gH,fi,py⟩:=ZH4 mH yb rZ gK;clear mH pG yb rZ gK;go_wp2_with fail;rw[←py.out];go_loopw [9,10,72] (λ ok _ i wr=>∃ j:Nat,j<=5/\i = .int .i64 j/\ok = .bool true/\wr=W5) (λ _ _ i _=>5-(intOf i).toNat)
 case atStart=>exact⟨0,ZO,rfl,rfl,rfl⟩
 case round =>
  obtain⟨j,hj,rfl,rfl,rfl⟩:=hrel;by_cases qx:j<5
  ·have Ca:(j:Int)<5:=ZO;go_wp2
   go_roundw
   case rel=>exact⟨j+1,ZO,ZN,rfl,by first | rfl | trivial⟩
   case measure=>simp[intOf];omega
  ·obtain rfl:j=5:=ZO
   go_wp2_with (first
    |(refine wpList_load_row rfl 158 (.tmp 7) rfl G rfl 158 (Za ⟨2,r,upto,ZCz,[]⟩ (.slice none 0 0)) (0,0) _ mD.out underlying158 rfl (Zap _ _) ?_)
    |(refine wpList_store_row rfl 158 (.tmp 2) (.tmp 93) rfl w.heap.size (Za ⟨2,r,upto,ZCz,[]⟩ (.slice none 0 0)) rfl rfl 158 (Za ⟨0,0,0,ZCz,[]⟩ (.slice none 0 0)) gH.out (Zap _ _) rfl (Zbc _ _ _ _) ?_))
   refine bodyPost_ret (Zn rfl rfl rfl (run_loadVar_row _ _ _ _ _ _ _ (gH.out.row _) underlying158 rfl (Zap _ _))) rfl ?_;exact⟨(.slice none 0 0),rfl,⟨rfl,.inl ⟨rfl,rfl⟩⟩,(fi.out.row (ZL _) _).below⟩
theorem Zmg{f:Frm}(h:f.Ok)(dF:f.kind=3){a:Option Addr}{n cap:Nat}{l:List Nat}{w:World}(hb:Bytes w a n cap l)(hl:l=Zd (Zad f).length++Zad f):
  Calls prog 137 #[.slice a n cap] w λ r w'=>∃ v,r = .returned (.tuple #[Z8 f v,.bool true])/\w'.ownsRow w.heap.size 89 12 v f.events.length (evCells f.events)/\Below w.heap.size w w':=by
 have cI:∀ x∈l,x<256:=λ x hx=>by
  rw[hl,List.mem_append] at hx;rcases hx with hx | hx
  ·exact Zay _ x hx
  ·exact Za4 h x hx
 have cQ:=Zbp h;obtain⟨kind,r,upto,clock,events⟩:=f;simp only[] at dF;subst dF;have hr:=h.r;have dJ:=h.upto;have fC:=h.len;simp only[] at hr dJ fC;have cX:upto=0:=h.upto0 ZM;have kd:events=[]:=h.events0 ZM ZM;subst cX kd;obtain⟨T,hT⟩:∃ T,T=(Zw clock 5):=⟨_,rfl⟩;obtain⟨BD,mY⟩:∃ BD,BD=Zad ⟨3,r,0,clock,[]⟩:=⟨_,rfl⟩;have dZ:BD=3::r::T:=by rw[mY,hT];rfl
 rw[←mY] at hl cQ;have ux:1<=T.length:=by
  rw[hT];first | exact Z4 _ | (have:=Z4 (clock.get 4);simp only[Zw,ZI];omega)|(simp)
 have oh:BD.length=T.length+2:=by rw[dZ];rfl
 have uy:T.length<=1298:=ZO;have eR:=hb.len;have kj:(Zd BD.length).length+(2+T.length)=n:=by
  rw[←eR,hl,ZI,oh];omega
 obtain⟨b,off,rfl,bY,bU⟩:=hb.pos ZO;have fZ:=hb.1;have bS:=hb.kept ((ZW w.heap.size w).alloc (ZL _) (.cells (Za ⟨0,0,0,ZCz,[]⟩ (.slice none 0 0)) 158)) (ZL _);have gE:=ZH (ZcD bS cI);have fT:=ZcE BD.length BD ZO;rw[←hl] at fT;have fQ:=Z3 2 BD.length ZO;obtain⟨g1,g2,g3⟩:=Zfd (Zd BD.length) T 3 r;rw[←dZ,←hl] at g1 g2 g3;obtain⟨k,hk⟩:∃ k,k=(Zd BD.length).length:=⟨_,rfl⟩;rw[←hk] at g1 g2 g3 fT kj fQ;have k0:=bU k ZO;have k1:=bU (k+1) ZO;rw[g1] at k0;rw[g2] at k1;have cU:=hb.rest (k:=k+2) ZO;rw[if_neg ZO,g3] at cU;have gc:∀ x∈T,x<256:=λ x hx=>cI x (by rw[←g3] at hx;exact List.mem_of_mem_drop hx)
 obtain⟨H,ld,ga,HT,er⟩:=ZH5 h fT cU hT gc;have km:(k:Int)<(n:Int):=ZO;have kL:(k:Int)+1<(n:Int):=ZO;have kM:(k:Int)+2<=(n:Int):=ZO;have kN:(k:Int)+2<=(cap:Int):=ZO;have cA:(0:Int)<=(k:Int):=ZO;have dE:(0:Int)<=(k:Int)+1:=ZO;have cJ:(0:Int)<=(k:Int)+2:=ZO;have xd:((k:Int)+1).toNat=k+1:=ZO;have Ci:((k:Int)+2).toNat=k+2:=ZO;have iW:IntKind.i64.wrap ((n:Int)-(k:Int))=(n:Int)-(k:Int):=by rw[IntKind.wrap_i64];omega
 have dl:IntKind.i64.wrap ((k:Int)+1)=(k:Int)+1:=by rw[IntKind.wrap_i64];omega
 have dK:IntKind.i64.wrap ((k:Int)+2)=(k:Int)+2:=by rw[IntKind.wrap_i64];omega
 have nD:IntKind.i64.wrap (r:Int)=(r:Int):=by rw[IntKind.wrap_i64];omega
 have iV:¬ ((n:Int)-(k:Int)<2):=ZO;have jx:¬ (cap=k+2):=ZO;clear h hb bS hl fT bU cU cI eR mY hk dZ oh hT g1 g2 g3 gc;go_enter func137,ntmps137;go_wp2_with fail;refine gE.out.mono ?_;rintro e w1 hP;obtain⟨rfl,rfl⟩:e = .returned (.tuple #[.int .u64 (BD.length:Nat),.int .i64 (k:Nat),.int .i64 ((0:Nat):Int)])/\_=w1:=by
  have fR:=hP;unfold ZaQ at fR;rw[ld.out] at fR;exact fR
 clear hP gE;obtain⟨w1,cV⟩:∃ w1,w1=w.alloc (.cells (Za ⟨0,0,0,ZCz,[]⟩ (.slice none 0 0)) 158):=⟨_,rfl⟩;have eA:Kept w.heap.size w w1:=by rw[cV];exact(ZKr w).alloc _
 have gb:Blk w1 w.heap.size 158 (Za ⟨0,0,0,ZCz,[]⟩ (.slice none 0 0)):=by rw[cV];exact ZBn _ _ _
 obtain⟨cE,ez⟩:=ZH2 eA gb;clear eA gb;go_wp2_with fail;rw[←cV];have ms:b<w1.heap.size:=ZR bY cE.out.le;have mB:w1.cell? ⟨b,off+k,none⟩=some (.int .u8 ((3:Nat):Int)):=by rw[cE.out.cells b _ bY];exact k0
 have mC:w1.cell? ⟨b,off+(k+1),none⟩=some (.int .u8 (r:Int)):=by rw[cE.out.cells b _ bY];exact k1
 have ft:=ZH cV;clear cV k0 k1;have uf:IntKind.i64.wrap (3:Int)=3:=by rw[IntKind.wrap_i64];omega
 refine ZSi [(0,3),(1,3),(2,3),(3,0),(4,3),(5,3),(6,3),(7,3),(8,3),(9,0),(10,3),(11,3),(12,1),(13,2)] λ bR=>?_
 repeat((first | refine ZSa ?_ | refine ZSb ?_ | refine ZSc ?_);simp only[Act.put,ZA,ZB,ZC])
 refine ZSd λ K hK=>?_
 go_simp;refine hK.out (λ w'=>Kept w1.heap.size w1 w') _ _ (λ _ h=>h) (bR.alloc _) (λ bT=>?_);clear hK K bR;repeat((first | refine ZSa ?_ | refine ZSb ?_ | refine ZSc ?_);simp only[Act.put,ZA,ZB,ZC])
 refine ZSe λ K hK=>?_
 go_simp;refine hK.out _ _ ?_;clear hK K;refine ZSf ?_;obtain⟨w2,cS⟩:∃ w2,w2=(w1.alloc (.cells (Za ⟨3,r,0,ZCz,[]⟩ (.slice none 0 0)) 158)).drew:=⟨_,rfl⟩;change Exit.then _ _ Exit.normal _ ((w1.alloc (.cells (Za ⟨3,r,0,ZCz,[]⟩ (.slice none 0 0)) 158)).drew);rw[←cS];have fu:Blk w2 w1.heap.size 158 (Za ⟨3,r,0,ZCz,[]⟩ (.slice none 0 0)):=by rw[cS];exact(ZBn _ _ _).drew
 have gm:Kept w.heap.size w w2:=by rw[cS];exact(cE.out.alloc _).drew
 have gI:Blk w2 w.heap.size 158 (Za ⟨0,0,0,ZCz,[]⟩ (.slice none 0 0)):=by rw[cS];exact(ez.out.alloc _).drew
 have nP:w.heap.size<w1.heap.size:=ez.out.lt;obtain⟨c0,c1,c2,c3,c4,c5,c6,c7,c8⟩:=fu.nine;have eY:=fu.lt;obtain⟨iw,cr,eU⟩:=ZH3 fu gm gI;clear fu gm gI cS bT cE ez mB mC;generalize w1.heap.size=G at *;go_wp2_with fail;refine(Zci 3 ZO ZO _).mono ?_;rintro _ w3 ⟨rfl,bZ⟩;rw[show Za8 3 = .agg #[.bool false,.bool false,.bool true] from rfl];obtain⟨iR,ep⟩:=ZH2 ((iw.out.ob bZ).alloc (.cells #[.bool false,.bool false,.bool true] 225)) ((eU.out.ob bZ).alloc (.cells #[.bool false,.bool false,.bool true] 225));have kE:=(cr.out.step bZ).alloc (.cells #[.bool false,.bool false,.bool true] 225);obtain⟨ia,dj⟩:=ZH2 (ZBn w3 225 #[.bool false,.bool false,.bool true]) (ga.out.kept kE.below (ZL _));have i5:=(iw.out.ob bZ).lt;have cC:=ZH kE;clear kE bZ c0 c1 c2 c3 c4 c5 c6 c7 c8 eY;go_wp2_with fail;have di:=ZH (show Bytes w (some ⟨b,off+(k+2),none⟩) (n-(k+2)) (cap-(k+2)) (T.drop (Zw clock 0).length) from ga.out);have SA:=ia.out.lt;have vR:w3.heap.size≠G:=ZO;have l6:w.heap.size≠G:=ZO;have mp:w.heap.size<=G:=ZO;have ji:n-(k+2)<=1300:=ZO;clear km kL kM kN cA dE cJ xd Ci iW dl dK iV jx kj;go_loopw [0,9,10,72] (λ v0 ok _ i wr=>∃ (j:Nat) (A:Option Addr) (n' C':Nat),j<=5/\i = .int .i64 j/\ok = .bool true/\v0 = .slice A n' C'/\n'<=1300/\Hid (Bytes w A n' C' (T.drop (Zw clock j).length))/\Hid (Blk wr G 158 (Za ⟨3,r,0,ZfD clock j,[]⟩ (.slice none 0 0)))/\Hid (Blk wr w3.heap.size 225 #[.bool false,.bool false,.bool true])/\Hid (Blk wr w.heap.size 158 (Za ⟨0,0,0,ZCz,[]⟩ (.slice none 0 0)))/\Hid (Kept w.heap.size w wr)) (λ _ _ _ i _=>5-(intOf i).toNat)
 case atStart=>exact⟨0,_,_,_,ZO,rfl,rfl,rfl,ji,di,iR,ia,ep,cC⟩
 case round =>
  clear di iR ia ep cC dj;obtain⟨j,A,n',C',hj,rfl,rfl,rfl,Ce,qa,xy,Ae,xO,sA⟩:=hrel;obtain⟨d0,d1,d2⟩:=Ae.out.three;have rC:=Ae.out.lt;by_cases qx:j<5
  ·have Ca:(j:Int)<5:=ZO;have uH:(0:Int)<=(j:Int):=ZO;have fh:T.drop (Zw clock j).length=Zd (clock.get j)++T.drop (Zw clock (j+1)).length:=by
    have h:=Zf1 clock qx;rw[←HT.out] at h;exact h
   have Cc:=qa.out.len;have jT:=Z4 (clock.get j);have jB:(Zd (clock.get j)).length<=n':=by
    rw[←Cc,fh,ZI];omega
   obtain⟨bb,oo,rfl,_,_⟩:=qa.out.pos ZO;have mg:=ZH (Zfc (qa.out.kept sA.out.below (ZL _)) (λ x hx=>er.out x (List.mem_of_mem_drop hx)) (clock.get j) (H.out.clock j) _ fh);have cU:=qa.out.rest jB;rw[fh,List.drop_left] at cU;have Sk:=qa.out.1;have zN:=ZH cU;clear cU fh Cc;generalize (Zd (clock.get j)).length=kk at *;have jC:(kk:Int)<=(n':Int):=ZO;have yt:(kk:Int)<=(C':Int):=ZO;have LN:(0:Int)<=(kk:Int):=ZO;go_wp2_with fail;refine mg.out.mono ?_;rintro _ w4 ⟨rfl,cz⟩;have fG:=xy.out.ob cz;have cj:=fG.cell (3+j);rw[Zf6 _ _ _ _ _ _ qx] at cj;have fj:=fG.frozen (3+j);have eY:=fG.lt;have mH:=fG.ai (3+j) (.int .i64 ((clock.get j:Nat):Int));rw[Zf7 _ _ _ _ _ _ qx] at mH;obtain⟨qk,gH,fi,mD⟩:=ZH4 ((Ae.out.ob cz).far (p:=⟨G,3+j,none⟩) vR (.int .i64 ((clock.get j:Nat):Int))) ((xO.out.ob cz).far (p:=⟨G,3+j,none⟩) l6 (.int .i64 ((clock.get j:Nat):Int))) ((sA.out.step cz).setCell (p:=⟨G,3+j,none⟩) mp (.int .i64 ((clock.get j:Nat):Int))) mH;clear fG mH cz mg d0 d1 d2 rC;go_wp2
   go_roundw
   case rel=>exact⟨j+1,_,_,_,ZO,ZN,rfl,rfl,ZO,zN,mD,qk,gH,fi⟩
   case measure=>simp[intOf];omega
  ·obtain rfl:j=5:=ZO;have mD:=xy;rw[Ze6] at mD;have gH:=xO;have fi:=sA;clear d0 d1 d2
   go_wp2_with (first
    |(refine wpList_load_row rfl 158 (.tmp 7) rfl G rfl 158 (Za ⟨3,r,0,clock,[]⟩ (.slice none 0 0)) (0,0) _ mD.out underlying158 rfl (Zap _ _) ?_)
    |(refine wpList_store_row rfl 158 (.tmp 2) (.tmp 93) rfl w.heap.size (Za ⟨3,r,0,clock,[]⟩ (.slice none 0 0)) rfl rfl 158 (Za ⟨0,0,0,ZCz,[]⟩ (.slice none 0 0)) gH.out (Zap _ _) rfl (Zbc _ _ _ _) ?_))
   refine bodyPost_ret (Zn rfl rfl rfl (run_loadVar_row _ _ _ _ _ _ _ (gH.out.row _) underlying158 rfl (Zap _ _))) rfl ?_;exact⟨(.slice none 0 0),rfl,⟨rfl,.inl ⟨rfl,rfl⟩⟩,(fi.out.row (ZL _) _).below⟩
theorem Zmi{f:Frm}(h:f.Ok)(dF:f.kind=5){a:Option Addr}{n cap:Nat}{l:List Nat}{w:World}(hb:Bytes w a n cap l)(hl:l=Zd (Zad f).length++Zad f):
  Calls prog 137 #[.slice a n cap] w λ r w'=>∃ v,r = .returned (.tuple #[Z8 f v,.bool true])/\w'.ownsRow w.heap.size 89 12 v f.events.length (evCells f.events)/\Below w.heap.size w w':=by
 have cI:∀ x∈l,x<256:=λ x hx=>by
  rw[hl,List.mem_append] at hx;rcases hx with hx | hx
  ·exact Zay _ x hx
  ·exact Za4 h x hx
 have cQ:=Zbp h;obtain⟨kind,r,upto,clock,events⟩:=f;simp only[] at dF;subst dF;have hr:=h.r;have dJ:=h.upto;have fC:=h.len;simp only[] at hr dJ fC;have cX:upto=0:=h.upto0 ZM;have kd:events=[]:=h.events0 ZM ZM;subst cX kd;obtain⟨T,hT⟩:∃ T,T=(Zw clock 5):=⟨_,rfl⟩;obtain⟨BD,mY⟩:∃ BD,BD=Zad ⟨5,r,0,clock,[]⟩:=⟨_,rfl⟩;have dZ:BD=5::r::T:=by rw[mY,hT];rfl
 rw[←mY] at hl cQ;have ux:1<=T.length:=by
  rw[hT];first | exact Z4 _ | (have:=Z4 (clock.get 4);simp only[Zw,ZI];omega)|(simp)
 have oh:BD.length=T.length+2:=by rw[dZ];rfl
 have uy:T.length<=1298:=ZO;have eR:=hb.len;have kj:(Zd BD.length).length+(2+T.length)=n:=by
  rw[←eR,hl,ZI,oh];omega
 obtain⟨b,off,rfl,bY,bU⟩:=hb.pos ZO;have fZ:=hb.1;have bS:=hb.kept ((ZW w.heap.size w).alloc (ZL _) (.cells (Za ⟨0,0,0,ZCz,[]⟩ (.slice none 0 0)) 158)) (ZL _);have gE:=ZH (ZcD bS cI);have fT:=ZcE BD.length BD ZO;rw[←hl] at fT;have fQ:=Z3 2 BD.length ZO;obtain⟨g1,g2,g3⟩:=Zfd (Zd BD.length) T 5 r;rw[←dZ,←hl] at g1 g2 g3;obtain⟨k,hk⟩:∃ k,k=(Zd BD.length).length:=⟨_,rfl⟩;rw[←hk] at g1 g2 g3 fT kj fQ;have k0:=bU k ZO;have k1:=bU (k+1) ZO;rw[g1] at k0;rw[g2] at k1;have cU:=hb.rest (k:=k+2) ZO;rw[if_neg ZO,g3] at cU;have gc:∀ x∈T,x<256:=λ x hx=>cI x (by rw[←g3] at hx;exact List.mem_of_mem_drop hx)
 obtain⟨H,ld,ga,HT,er⟩:=ZH5 h fT cU hT gc;have km:(k:Int)<(n:Int):=ZO;have kL:(k:Int)+1<(n:Int):=ZO;have kM:(k:Int)+2<=(n:Int):=ZO;have kN:(k:Int)+2<=(cap:Int):=ZO;have cA:(0:Int)<=(k:Int):=ZO;have dE:(0:Int)<=(k:Int)+1:=ZO;have cJ:(0:Int)<=(k:Int)+2:=ZO;have xd:((k:Int)+1).toNat=k+1:=ZO;have Ci:((k:Int)+2).toNat=k+2:=ZO;have iW:IntKind.i64.wrap ((n:Int)-(k:Int))=(n:Int)-(k:Int):=by rw[IntKind.wrap_i64];omega
 have dl:IntKind.i64.wrap ((k:Int)+1)=(k:Int)+1:=by rw[IntKind.wrap_i64];omega
 have dK:IntKind.i64.wrap ((k:Int)+2)=(k:Int)+2:=by rw[IntKind.wrap_i64];omega
 have nD:IntKind.i64.wrap (r:Int)=(r:Int):=by rw[IntKind.wrap_i64];omega
 have iV:¬ ((n:Int)-(k:Int)<2):=ZO;have jx:¬ (cap=k+2):=ZO;clear h hb bS hl fT bU cU cI eR mY hk dZ oh hT g1 g2 g3 gc;go_enter func137,ntmps137;go_wp2_with fail;refine gE.out.mono ?_;rintro e w1 hP;obtain⟨rfl,rfl⟩:e = .returned (.tuple #[.int .u64 (BD.length:Nat),.int .i64 (k:Nat),.int .i64 ((0:Nat):Int)])/\_=w1:=by
  have fR:=hP;unfold ZaQ at fR;rw[ld.out] at fR;exact fR
 clear hP gE;obtain⟨w1,cV⟩:∃ w1,w1=w.alloc (.cells (Za ⟨0,0,0,ZCz,[]⟩ (.slice none 0 0)) 158):=⟨_,rfl⟩;have eA:Kept w.heap.size w w1:=by rw[cV];exact(ZKr w).alloc _
 have gb:Blk w1 w.heap.size 158 (Za ⟨0,0,0,ZCz,[]⟩ (.slice none 0 0)):=by rw[cV];exact ZBn _ _ _
 obtain⟨cE,ez⟩:=ZH2 eA gb;clear eA gb;go_wp2_with fail;rw[←cV];have ms:b<w1.heap.size:=ZR bY cE.out.le;have mB:w1.cell? ⟨b,off+k,none⟩=some (.int .u8 ((5:Nat):Int)):=by rw[cE.out.cells b _ bY];exact k0
 have mC:w1.cell? ⟨b,off+(k+1),none⟩=some (.int .u8 (r:Int)):=by rw[cE.out.cells b _ bY];exact k1
 have ft:=ZH cV;clear cV k0 k1;have uf:IntKind.i64.wrap (5:Int)=5:=by rw[IntKind.wrap_i64];omega
 refine ZSi [(0,3),(1,3),(2,3),(3,0),(4,3),(5,3),(6,3),(7,3),(8,3),(9,0),(10,3),(11,3),(12,1),(13,2)] λ bR=>?_
 repeat((first | refine ZSa ?_ | refine ZSb ?_ | refine ZSc ?_);simp only[Act.put,ZA,ZB,ZC])
 refine ZSd λ K hK=>?_
 go_simp;refine hK.out (λ w'=>Kept w1.heap.size w1 w') _ _ (λ _ h=>h) (bR.alloc _) (λ bT=>?_);clear hK K bR;repeat((first | refine ZSa ?_ | refine ZSb ?_ | refine ZSc ?_);simp only[Act.put,ZA,ZB,ZC])
 refine ZSe λ K hK=>?_
 go_simp;refine hK.out _ _ ?_;clear hK K;refine ZSf ?_;obtain⟨w2,cS⟩:∃ w2,w2=(w1.alloc (.cells (Za ⟨5,r,0,ZCz,[]⟩ (.slice none 0 0)) 158)).drew:=⟨_,rfl⟩;change Exit.then _ _ Exit.normal _ ((w1.alloc (.cells (Za ⟨5,r,0,ZCz,[]⟩ (.slice none 0 0)) 158)).drew);rw[←cS];have fu:Blk w2 w1.heap.size 158 (Za ⟨5,r,0,ZCz,[]⟩ (.slice none 0 0)):=by rw[cS];exact(ZBn _ _ _).drew
 have gm:Kept w.heap.size w w2:=by rw[cS];exact(cE.out.alloc _).drew
 have gI:Blk w2 w.heap.size 158 (Za ⟨0,0,0,ZCz,[]⟩ (.slice none 0 0)):=by rw[cS];exact(ez.out.alloc _).drew
 have nP:w.heap.size<w1.heap.size:=ez.out.lt;obtain⟨c0,c1,c2,c3,c4,c5,c6,c7,c8⟩:=fu.nine;have eY:=fu.lt;obtain⟨iw,cr,eU⟩:=ZH3 fu gm gI;clear fu gm gI cS bT cE ez mB mC;generalize w1.heap.size=G at *;go_wp2_with fail;refine(Zci 5 ZO ZO _).mono ?_;rintro _ w3 ⟨rfl,bZ⟩;rw[show Za8 5 = .agg #[.bool false,.bool false,.bool true] from rfl];obtain⟨iR,ep⟩:=ZH2 ((iw.out.ob bZ).alloc (.cells #[.bool false,.bool false,.bool true] 225)) ((eU.out.ob bZ).alloc (.cells #[.bool false,.bool false,.bool true] 225));have kE:=(cr.out.step bZ).alloc (.cells #[.bool false,.bool false,.bool true] 225);obtain⟨ia,dj⟩:=ZH2 (ZBn w3 225 #[.bool false,.bool false,.bool true]) (ga.out.kept kE.below (ZL _));have i5:=(iw.out.ob bZ).lt;have cC:=ZH kE;clear kE bZ c0 c1 c2 c3 c4 c5 c6 c7 c8 eY;go_wp2_with fail;have di:=ZH (show Bytes w (some ⟨b,off+(k+2),none⟩) (n-(k+2)) (cap-(k+2)) (T.drop (Zw clock 0).length) from ga.out);have SA:=ia.out.lt;have vR:w3.heap.size≠G:=ZO;have l6:w.heap.size≠G:=ZO;have mp:w.heap.size<=G:=ZO;have ji:n-(k+2)<=1300:=ZO;clear km kL kM kN cA dE cJ xd Ci iW dl dK iV jx kj;go_loopw [0,9,10,72] (λ v0 ok _ i wr=>∃ (j:Nat) (A:Option Addr) (n' C':Nat),j<=5/\i = .int .i64 j/\ok = .bool true/\v0 = .slice A n' C'/\n'<=1300/\Hid (Bytes w A n' C' (T.drop (Zw clock j).length))/\Hid (Blk wr G 158 (Za ⟨5,r,0,ZfD clock j,[]⟩ (.slice none 0 0)))/\Hid (Blk wr w3.heap.size 225 #[.bool false,.bool false,.bool true])/\Hid (Blk wr w.heap.size 158 (Za ⟨0,0,0,ZCz,[]⟩ (.slice none 0 0)))/\Hid (Kept w.heap.size w wr)) (λ _ _ _ i _=>5-(intOf i).toNat)
 case atStart=>exact⟨0,_,_,_,ZO,rfl,rfl,rfl,ji,di,iR,ia,ep,cC⟩
 case round =>
  clear di iR ia ep cC dj;obtain⟨j,A,n',C',hj,rfl,rfl,rfl,Ce,qa,xy,Ae,xO,sA⟩:=hrel;obtain⟨d0,d1,d2⟩:=Ae.out.three;have rC:=Ae.out.lt;by_cases qx:j<5
  ·have Ca:(j:Int)<5:=ZO;have uH:(0:Int)<=(j:Int):=ZO;have fh:T.drop (Zw clock j).length=Zd (clock.get j)++T.drop (Zw clock (j+1)).length:=by
    have h:=Zf1 clock qx;rw[←HT.out] at h;exact h
   have Cc:=qa.out.len;have jT:=Z4 (clock.get j);have jB:(Zd (clock.get j)).length<=n':=by
    rw[←Cc,fh,ZI];omega
   obtain⟨bb,oo,rfl,_,_⟩:=qa.out.pos ZO;have mg:=ZH (Zfc (qa.out.kept sA.out.below (ZL _)) (λ x hx=>er.out x (List.mem_of_mem_drop hx)) (clock.get j) (H.out.clock j) _ fh);have cU:=qa.out.rest jB;rw[fh,List.drop_left] at cU;have Sk:=qa.out.1;have zN:=ZH cU;clear cU fh Cc;generalize (Zd (clock.get j)).length=kk at *;have jC:(kk:Int)<=(n':Int):=ZO;have yt:(kk:Int)<=(C':Int):=ZO;have LN:(0:Int)<=(kk:Int):=ZO;go_wp2_with fail;refine mg.out.mono ?_;rintro _ w4 ⟨rfl,cz⟩;have fG:=xy.out.ob cz;have cj:=fG.cell (3+j);rw[Zf6 _ _ _ _ _ _ qx] at cj;have fj:=fG.frozen (3+j);have eY:=fG.lt;have mH:=fG.ai (3+j) (.int .i64 ((clock.get j:Nat):Int));rw[Zf7 _ _ _ _ _ _ qx] at mH;obtain⟨qk,gH,fi,mD⟩:=ZH4 ((Ae.out.ob cz).far (p:=⟨G,3+j,none⟩) vR (.int .i64 ((clock.get j:Nat):Int))) ((xO.out.ob cz).far (p:=⟨G,3+j,none⟩) l6 (.int .i64 ((clock.get j:Nat):Int))) ((sA.out.step cz).setCell (p:=⟨G,3+j,none⟩) mp (.int .i64 ((clock.get j:Nat):Int))) mH;clear fG mH cz mg d0 d1 d2 rC;go_wp2
   go_roundw
   case rel=>exact⟨j+1,_,_,_,ZO,ZN,rfl,rfl,ZO,zN,mD,qk,gH,fi⟩
   case measure=>simp[intOf];omega
  ·obtain rfl:j=5:=ZO;have mD:=xy;rw[Ze6] at mD;have gH:=xO;have fi:=sA;clear d0 d1 d2
   go_wp2_with (first
    |(refine wpList_load_row rfl 158 (.tmp 7) rfl G rfl 158 (Za ⟨5,r,0,clock,[]⟩ (.slice none 0 0)) (0,0) _ mD.out underlying158 rfl (Zap _ _) ?_)
    |(refine wpList_store_row rfl 158 (.tmp 2) (.tmp 93) rfl w.heap.size (Za ⟨5,r,0,clock,[]⟩ (.slice none 0 0)) rfl rfl 158 (Za ⟨0,0,0,ZCz,[]⟩ (.slice none 0 0)) gH.out (Zap _ _) rfl (Zbc _ _ _ _) ?_))
   refine bodyPost_ret (Zn rfl rfl rfl (run_loadVar_row _ _ _ _ _ _ _ (gH.out.row _) underlying158 rfl (Zap _ _))) rfl ?_;exact⟨(.slice none 0 0),rfl,⟨rfl,.inl ⟨rfl,rfl⟩⟩,(fi.out.row (ZL _) _).below⟩
theorem Zme{f:Frm}(h:f.Ok)(dF:f.kind=1){a:Option Addr}{n cap:Nat}{l:List Nat}{w:World}(hb:Bytes w a n cap l)(hl:l=Zd (Zad f).length++Zad f):
  Calls prog 137 #[.slice a n cap] w λ r w'=>∃ v,r = .returned (.tuple #[Z8 f v,.bool true])/\w'.ownsRow w.heap.size 89 12 v f.events.length (evCells f.events)/\Below w.heap.size w w':=by
 have cI:∀ x∈l,x<256:=λ x hx=>by
  rw[hl,List.mem_append] at hx;rcases hx with hx | hx
  ·exact Zay _ x hx
  ·exact Za4 h x hx
 have cQ:=Zbp h;obtain⟨kind,r,upto,clock,events⟩:=f;simp only[] at dF;subst dF;have hr:=h.r;have dJ:=h.upto;have fC:=h.len;simp only[] at hr dJ fC;have dW:clock=ZCz:=h.clock0 ZM ZM;have cX:upto=0:=h.upto0 ZM;subst dW cX;obtain⟨T,hT⟩:∃ T,T=(events.length::Zg events):=⟨_,rfl⟩;obtain⟨BD,mY⟩:∃ BD,BD=Zad ⟨1,r,0,ZCz,events⟩:=⟨_,rfl⟩;have dZ:BD=1::r::T:=by rw[mY,hT];rfl
 rw[←mY] at hl cQ;have ux:1<=T.length:=by
  rw[hT];first | exact Z4 _ | (have:=Z4 (clock.get 4);simp only[Zw,ZI];omega)|(simp)
 have oh:BD.length=T.length+2:=by rw[dZ];rfl
 have uy:T.length<=1298:=ZO;have eR:=hb.len;have kj:(Zd BD.length).length+(2+T.length)=n:=by
  rw[←eR,hl,ZI,oh];omega
 obtain⟨b,off,rfl,bY,bU⟩:=hb.pos ZO;have fZ:=hb.1;have bS:=hb.kept ((ZW w.heap.size w).alloc (ZL _) (.cells (Za ⟨0,0,0,ZCz,[]⟩ (.slice none 0 0)) 158)) (ZL _);have gE:=ZH (ZcD bS cI);have fT:=ZcE BD.length BD ZO;rw[←hl] at fT;have fQ:=Z3 2 BD.length ZO;obtain⟨g1,g2,g3⟩:=Zfd (Zd BD.length) T 1 r;rw[←dZ,←hl] at g1 g2 g3;obtain⟨k,hk⟩:∃ k,k=(Zd BD.length).length:=⟨_,rfl⟩;rw[←hk] at g1 g2 g3 fT kj fQ;have k0:=bU k ZO;have k1:=bU (k+1) ZO;rw[g1] at k0;rw[g2] at k1;have cU:=hb.rest (k:=k+2) ZO;rw[if_neg ZO,g3] at cU;have gc:∀ x∈T,x<256:=λ x hx=>cI x (by rw[←g3] at hx;exact List.mem_of_mem_drop hx)
 obtain⟨H,ld,ga,HT,er⟩:=ZH5 h fT cU hT gc;have km:(k:Int)<(n:Int):=ZO;have kL:(k:Int)+1<(n:Int):=ZO;have kM:(k:Int)+2<=(n:Int):=ZO;have kN:(k:Int)+2<=(cap:Int):=ZO;have cA:(0:Int)<=(k:Int):=ZO;have dE:(0:Int)<=(k:Int)+1:=ZO;have cJ:(0:Int)<=(k:Int)+2:=ZO;have xd:((k:Int)+1).toNat=k+1:=ZO;have Ci:((k:Int)+2).toNat=k+2:=ZO;have iW:IntKind.i64.wrap ((n:Int)-(k:Int))=(n:Int)-(k:Int):=by rw[IntKind.wrap_i64];omega
 have dl:IntKind.i64.wrap ((k:Int)+1)=(k:Int)+1:=by rw[IntKind.wrap_i64];omega
 have dK:IntKind.i64.wrap ((k:Int)+2)=(k:Int)+2:=by rw[IntKind.wrap_i64];omega
 have nD:IntKind.i64.wrap (r:Int)=(r:Int):=by rw[IntKind.wrap_i64];omega
 have iV:¬ ((n:Int)-(k:Int)<2):=ZO;have jx:¬ (cap=k+2):=ZO;clear h hb bS hl fT bU cU cI eR mY hk dZ oh hT g1 g2 g3 gc;go_enter func137,ntmps137;go_wp2_with fail;refine gE.out.mono ?_;rintro e w1 hP;obtain⟨rfl,rfl⟩:e = .returned (.tuple #[.int .u64 (BD.length:Nat),.int .i64 (k:Nat),.int .i64 ((0:Nat):Int)])/\_=w1:=by
  have fR:=hP;unfold ZaQ at fR;rw[ld.out] at fR;exact fR
 clear hP gE;obtain⟨w1,cV⟩:∃ w1,w1=w.alloc (.cells (Za ⟨0,0,0,ZCz,[]⟩ (.slice none 0 0)) 158):=⟨_,rfl⟩;have eA:Kept w.heap.size w w1:=by rw[cV];exact(ZKr w).alloc _
 have gb:Blk w1 w.heap.size 158 (Za ⟨0,0,0,ZCz,[]⟩ (.slice none 0 0)):=by rw[cV];exact ZBn _ _ _
 obtain⟨cE,ez⟩:=ZH2 eA gb;clear eA gb;go_wp2_with fail;rw[←cV];have ms:b<w1.heap.size:=ZR bY cE.out.le;have mB:w1.cell? ⟨b,off+k,none⟩=some (.int .u8 ((1:Nat):Int)):=by rw[cE.out.cells b _ bY];exact k0
 have mC:w1.cell? ⟨b,off+(k+1),none⟩=some (.int .u8 (r:Int)):=by rw[cE.out.cells b _ bY];exact k1
 have ft:=ZH cV;clear cV k0 k1;have uf:IntKind.i64.wrap (1:Int)=1:=by rw[IntKind.wrap_i64];omega
 refine ZSi [(0,3),(1,3),(2,3),(3,0),(4,3),(5,3),(6,3),(7,3),(8,3),(9,0),(10,3),(11,3),(12,1),(13,2)] λ bR=>?_
 repeat((first | refine ZSa ?_ | refine ZSb ?_ | refine ZSc ?_);simp only[Act.put,ZA,ZB,ZC])
 refine ZSd λ K hK=>?_
 go_simp;refine hK.out (λ w'=>Kept w1.heap.size w1 w') _ _ (λ _ h=>h) (bR.alloc _) (λ bT=>?_);clear hK K bR;repeat((first | refine ZSa ?_ | refine ZSb ?_ | refine ZSc ?_);simp only[Act.put,ZA,ZB,ZC])
 refine ZSe λ K hK=>?_
 go_simp;refine hK.out _ _ ?_;clear hK K;refine ZSf ?_;obtain⟨w2,cS⟩:∃ w2,w2=(w1.alloc (.cells (Za ⟨1,r,0,ZCz,[]⟩ (.slice none 0 0)) 158)).drew:=⟨_,rfl⟩;change Exit.then _ _ Exit.normal _ ((w1.alloc (.cells (Za ⟨1,r,0,ZCz,[]⟩ (.slice none 0 0)) 158)).drew);rw[←cS];have fu:Blk w2 w1.heap.size 158 (Za ⟨1,r,0,ZCz,[]⟩ (.slice none 0 0)):=by rw[cS];exact(ZBn _ _ _).drew
 have gm:Kept w.heap.size w w2:=by rw[cS];exact(cE.out.alloc _).drew
 have gI:Blk w2 w.heap.size 158 (Za ⟨0,0,0,ZCz,[]⟩ (.slice none 0 0)):=by rw[cS];exact(ez.out.alloc _).drew
 have nP:w.heap.size<w1.heap.size:=ez.out.lt;obtain⟨c0,c1,c2,c3,c4,c5,c6,c7,c8⟩:=fu.nine;have eY:=fu.lt;obtain⟨iw,cr,eU⟩:=ZH3 fu gm gI;clear fu gm gI cS bT cE ez mB mC;generalize w1.heap.size=G at *;go_wp2_with fail;refine(Zci 1 ZO ZO _).mono ?_;rintro _ w3 ⟨rfl,bZ⟩;rw[show Za8 1 = .agg #[.bool true,.bool false,.bool false] from rfl];obtain⟨iR,ep⟩:=ZH2 ((iw.out.ob bZ).alloc (.cells #[.bool true,.bool false,.bool false] 225)) ((eU.out.ob bZ).alloc (.cells #[.bool true,.bool false,.bool false] 225));have kE:=(cr.out.step bZ).alloc (.cells #[.bool true,.bool false,.bool false] 225);obtain⟨ia,dj⟩:=ZH2 (ZBn w3 225 #[.bool true,.bool false,.bool false]) (ga.out.kept kE.below (ZL _));have i5:=(iw.out.ob bZ).lt;have cC:=ZH kE;clear kE bZ c0 c1 c2 c3 c4 c5 c6 c7 c8 eY;go_wp2_with fail;refine(ZgZ dj.out er.out ZO events H.out.events fC [] (by rw[HT.out,List.append_nil])).mono ?_;rintro _ w4 ⟨VV,rfl,sf,cz⟩;have fG:=iR.out.ob cz;obtain⟨c0,c1,c2,c3,c4,c5,c6,c7,c8⟩:=fG.nine;have f8:=fG.frozen 8;have i9:=ZH (ia.out.ob cz);have eY:=fG.lt;obtain⟨fU,cZ⟩:=ZH2 (ep.out.ob cz) (cC.out.step cz);have l6:w.heap.size≠G:=ZO;have vR:w3.heap.size≠G:=ZO;have lK:G<(w3.alloc (.cells #[.bool true,.bool false,.bool false] 225)).heap.size:=iR.out.lt;obtain⟨BB,oe⟩:∃ BB,BB=(w3.alloc (.cells #[.bool true,.bool false,.bool false] 225)).heap.size:=⟨_,rfl⟩;rw[←oe] at sf lK;obtain⟨av,cv,rfl,_⟩:=EvSl.ab sf;obtain⟨lY,sR⟩:=ZH2 fG sf;clear fG cz sf oe;obtain⟨W5,gK⟩:∃ W5,W5=w4.setCell ⟨G,8,none⟩ (.slice av events.length cv):=⟨_,rfl⟩;have mH:Blk W5 G 158 (Za ⟨1,r,0,ZCz,events⟩ (.slice av events.length cv)):=by rw[gK];exact lY.out.ai 8 _
 have pG:Blk W5 w3.heap.size 225 #[.bool true,.bool false,.bool false]:=by rw[gK];exact i9.out.far vR _
 have yb:Blk W5 w.heap.size 158 (Za ⟨0,0,0,ZCz,[]⟩ (.slice none 0 0)):=by rw[gK];exact fU.out.far l6 _
 have rZ:Kept w.heap.size w W5:=by rw[gK];exact cZ.out.setCell (by show w.heap.size<=G;omega) _
 have Er:W5.ownsRow BB 89 12 (.slice av events.length cv) events.length (evCells events):=by
  rw[gK];exact Zh sR.out (λ g hg _=>Below.heap_setCell _ _ _ _ (λ e=>by have:=Zb sR.out hg;have e:g=G:=e;omega))
 obtain⟨d0,d1,d2⟩:=pG.three;obtain⟨x0,x1,x2⟩:=i9.out.three;have rC:=pG.lt;have yA:=i9.out.lt;obtain⟨mD,gH,fi,py,sS⟩:=ZH5 mH yb rZ gK Er;clear mH pG yb rZ gK Er;go_wp2_with fail;rw[←py.out];go_loopw [9,10,72] (λ ok _ i wr=>∃ j:Nat,j<=5/\i = .int .i64 j/\ok = .bool true/\wr=W5) (λ _ _ i _=>5-(intOf i).toNat)
 case atStart=>exact⟨0,ZO,rfl,rfl,rfl⟩
 case round =>
  obtain⟨j,hj,rfl,rfl,rfl⟩:=hrel;by_cases qx:j<5
  ·have Ca:(j:Int)<5:=ZO;go_wp2
   go_roundw
   case rel=>exact⟨j+1,ZO,ZN,rfl,by first | rfl | trivial⟩
   case measure=>simp[intOf];omega
  ·obtain rfl:j=5:=ZO
   go_wp2_with (first
    |(refine wpList_load_row rfl 158 (.tmp 7) rfl G rfl 158 (Za ⟨1,r,0,ZCz,events⟩ (.slice av events.length cv)) (0,0) _ mD.out underlying158 rfl (Zap _ _) ?_)
    |(refine wpList_store_row rfl 158 (.tmp 2) (.tmp 93) rfl w.heap.size (Za ⟨1,r,0,ZCz,events⟩ (.slice av events.length cv)) rfl rfl 158 (Za ⟨0,0,0,ZCz,[]⟩ (.slice none 0 0)) gH.out (Zap _ _) rfl (Zbc _ _ _ _) ?_))
   refine bodyPost_ret (Zn rfl rfl rfl (run_loadVar_row _ _ _ _ _ _ _ (gH.out.row _) underlying158 rfl (Zap _ _))) rfl ?_;exact⟨(.slice av events.length cv),rfl,Zi (Zh sS.out (λ g hg _=>setRow_other _ _ _ _ (by have:=Zb sS.out hg;omega))) ZO,(fi.out.row (ZL _) _).below⟩
theorem Zmh{f:Frm}(h:f.Ok)(dF:f.kind=4){a:Option Addr}{n cap:Nat}{l:List Nat}{w:World}(hb:Bytes w a n cap l)(hl:l=Zd (Zad f).length++Zad f):
  Calls prog 137 #[.slice a n cap] w λ r w'=>∃ v,r = .returned (.tuple #[Z8 f v,.bool true])/\w'.ownsRow w.heap.size 89 12 v f.events.length (evCells f.events)/\Below w.heap.size w w':=by
 have cI:∀ x∈l,x<256:=λ x hx=>by
  rw[hl,List.mem_append] at hx;rcases hx with hx | hx
  ·exact Zay _ x hx
  ·exact Za4 h x hx
 have cQ:=Zbp h;obtain⟨kind,r,upto,clock,events⟩:=f;simp only[] at dF;subst dF;have hr:=h.r;have dJ:=h.upto;have fC:=h.len;simp only[] at hr dJ fC;have dW:clock=ZCz:=h.clock0 ZM ZM;have cX:upto=0:=h.upto0 ZM;subst dW cX;obtain⟨T,hT⟩:∃ T,T=(events.length::Zg events):=⟨_,rfl⟩;obtain⟨BD,mY⟩:∃ BD,BD=Zad ⟨4,r,0,ZCz,events⟩:=⟨_,rfl⟩;have dZ:BD=4::r::T:=by rw[mY,hT];rfl
 rw[←mY] at hl cQ;have ux:1<=T.length:=by
  rw[hT];first | exact Z4 _ | (have:=Z4 (clock.get 4);simp only[Zw,ZI];omega)|(simp)
 have oh:BD.length=T.length+2:=by rw[dZ];rfl
 have uy:T.length<=1298:=ZO;have eR:=hb.len;have kj:(Zd BD.length).length+(2+T.length)=n:=by
  rw[←eR,hl,ZI,oh];omega
 obtain⟨b,off,rfl,bY,bU⟩:=hb.pos ZO;have fZ:=hb.1;have bS:=hb.kept ((ZW w.heap.size w).alloc (ZL _) (.cells (Za ⟨0,0,0,ZCz,[]⟩ (.slice none 0 0)) 158)) (ZL _);have gE:=ZH (ZcD bS cI);have fT:=ZcE BD.length BD ZO;rw[←hl] at fT;have fQ:=Z3 2 BD.length ZO;obtain⟨g1,g2,g3⟩:=Zfd (Zd BD.length) T 4 r;rw[←dZ,←hl] at g1 g2 g3;obtain⟨k,hk⟩:∃ k,k=(Zd BD.length).length:=⟨_,rfl⟩;rw[←hk] at g1 g2 g3 fT kj fQ;have k0:=bU k ZO;have k1:=bU (k+1) ZO;rw[g1] at k0;rw[g2] at k1;have cU:=hb.rest (k:=k+2) ZO;rw[if_neg ZO,g3] at cU;have gc:∀ x∈T,x<256:=λ x hx=>cI x (by rw[←g3] at hx;exact List.mem_of_mem_drop hx)
 obtain⟨H,ld,ga,HT,er⟩:=ZH5 h fT cU hT gc;have km:(k:Int)<(n:Int):=ZO;have kL:(k:Int)+1<(n:Int):=ZO;have kM:(k:Int)+2<=(n:Int):=ZO;have kN:(k:Int)+2<=(cap:Int):=ZO;have cA:(0:Int)<=(k:Int):=ZO;have dE:(0:Int)<=(k:Int)+1:=ZO;have cJ:(0:Int)<=(k:Int)+2:=ZO;have xd:((k:Int)+1).toNat=k+1:=ZO;have Ci:((k:Int)+2).toNat=k+2:=ZO;have iW:IntKind.i64.wrap ((n:Int)-(k:Int))=(n:Int)-(k:Int):=by rw[IntKind.wrap_i64];omega
 have dl:IntKind.i64.wrap ((k:Int)+1)=(k:Int)+1:=by rw[IntKind.wrap_i64];omega
 have dK:IntKind.i64.wrap ((k:Int)+2)=(k:Int)+2:=by rw[IntKind.wrap_i64];omega
 have nD:IntKind.i64.wrap (r:Int)=(r:Int):=by rw[IntKind.wrap_i64];omega
 have iV:¬ ((n:Int)-(k:Int)<2):=ZO;have jx:¬ (cap=k+2):=ZO;clear h hb bS hl fT bU cU cI eR mY hk dZ oh hT g1 g2 g3 gc;go_enter func137,ntmps137;go_wp2_with fail;refine gE.out.mono ?_;rintro e w1 hP;obtain⟨rfl,rfl⟩:e = .returned (.tuple #[.int .u64 (BD.length:Nat),.int .i64 (k:Nat),.int .i64 ((0:Nat):Int)])/\_=w1:=by
  have fR:=hP;unfold ZaQ at fR;rw[ld.out] at fR;exact fR
 clear hP gE;obtain⟨w1,cV⟩:∃ w1,w1=w.alloc (.cells (Za ⟨0,0,0,ZCz,[]⟩ (.slice none 0 0)) 158):=⟨_,rfl⟩;have eA:Kept w.heap.size w w1:=by rw[cV];exact(ZKr w).alloc _
 have gb:Blk w1 w.heap.size 158 (Za ⟨0,0,0,ZCz,[]⟩ (.slice none 0 0)):=by rw[cV];exact ZBn _ _ _
 obtain⟨cE,ez⟩:=ZH2 eA gb;clear eA gb;go_wp2_with fail;rw[←cV];have ms:b<w1.heap.size:=ZR bY cE.out.le;have mB:w1.cell? ⟨b,off+k,none⟩=some (.int .u8 ((4:Nat):Int)):=by rw[cE.out.cells b _ bY];exact k0
 have mC:w1.cell? ⟨b,off+(k+1),none⟩=some (.int .u8 (r:Int)):=by rw[cE.out.cells b _ bY];exact k1
 have ft:=ZH cV;clear cV k0 k1;have uf:IntKind.i64.wrap (4:Int)=4:=by rw[IntKind.wrap_i64];omega
 refine ZSi [(0,3),(1,3),(2,3),(3,0),(4,3),(5,3),(6,3),(7,3),(8,3),(9,0),(10,3),(11,3),(12,1),(13,2)] λ bR=>?_
 repeat((first | refine ZSa ?_ | refine ZSb ?_ | refine ZSc ?_);simp only[Act.put,ZA,ZB,ZC])
 refine ZSd λ K hK=>?_
 go_simp;refine hK.out (λ w'=>Kept w1.heap.size w1 w') _ _ (λ _ h=>h) (bR.alloc _) (λ bT=>?_);clear hK K bR;repeat((first | refine ZSa ?_ | refine ZSb ?_ | refine ZSc ?_);simp only[Act.put,ZA,ZB,ZC])
 refine ZSe λ K hK=>?_
 go_simp;refine hK.out _ _ ?_;clear hK K;refine ZSf ?_;obtain⟨w2,cS⟩:∃ w2,w2=(w1.alloc (.cells (Za ⟨4,r,0,ZCz,[]⟩ (.slice none 0 0)) 158)).drew:=⟨_,rfl⟩;change Exit.then _ _ Exit.normal _ ((w1.alloc (.cells (Za ⟨4,r,0,ZCz,[]⟩ (.slice none 0 0)) 158)).drew);rw[←cS];have fu:Blk w2 w1.heap.size 158 (Za ⟨4,r,0,ZCz,[]⟩ (.slice none 0 0)):=by rw[cS];exact(ZBn _ _ _).drew
 have gm:Kept w.heap.size w w2:=by rw[cS];exact(cE.out.alloc _).drew
 have gI:Blk w2 w.heap.size 158 (Za ⟨0,0,0,ZCz,[]⟩ (.slice none 0 0)):=by rw[cS];exact(ez.out.alloc _).drew
 have nP:w.heap.size<w1.heap.size:=ez.out.lt;obtain⟨c0,c1,c2,c3,c4,c5,c6,c7,c8⟩:=fu.nine;have eY:=fu.lt;obtain⟨iw,cr,eU⟩:=ZH3 fu gm gI;clear fu gm gI cS bT cE ez mB mC;generalize w1.heap.size=G at *;go_wp2_with fail;refine(Zci 4 ZO ZO _).mono ?_;rintro _ w3 ⟨rfl,bZ⟩;rw[show Za8 4 = .agg #[.bool true,.bool false,.bool false] from rfl];obtain⟨iR,ep⟩:=ZH2 ((iw.out.ob bZ).alloc (.cells #[.bool true,.bool false,.bool false] 225)) ((eU.out.ob bZ).alloc (.cells #[.bool true,.bool false,.bool false] 225));have kE:=(cr.out.step bZ).alloc (.cells #[.bool true,.bool false,.bool false] 225);obtain⟨ia,dj⟩:=ZH2 (ZBn w3 225 #[.bool true,.bool false,.bool false]) (ga.out.kept kE.below (ZL _));have i5:=(iw.out.ob bZ).lt;have cC:=ZH kE;clear kE bZ c0 c1 c2 c3 c4 c5 c6 c7 c8 eY;go_wp2_with fail;refine(ZgZ dj.out er.out ZO events H.out.events fC [] (by rw[HT.out,List.append_nil])).mono ?_;rintro _ w4 ⟨VV,rfl,sf,cz⟩;have fG:=iR.out.ob cz;obtain⟨c0,c1,c2,c3,c4,c5,c6,c7,c8⟩:=fG.nine;have f8:=fG.frozen 8;have i9:=ZH (ia.out.ob cz);have eY:=fG.lt;obtain⟨fU,cZ⟩:=ZH2 (ep.out.ob cz) (cC.out.step cz);have l6:w.heap.size≠G:=ZO;have vR:w3.heap.size≠G:=ZO;have lK:G<(w3.alloc (.cells #[.bool true,.bool false,.bool false] 225)).heap.size:=iR.out.lt;obtain⟨BB,oe⟩:∃ BB,BB=(w3.alloc (.cells #[.bool true,.bool false,.bool false] 225)).heap.size:=⟨_,rfl⟩;rw[←oe] at sf lK;obtain⟨av,cv,rfl,_⟩:=EvSl.ab sf;obtain⟨lY,sR⟩:=ZH2 fG sf;clear fG cz sf oe;obtain⟨W5,gK⟩:∃ W5,W5=w4.setCell ⟨G,8,none⟩ (.slice av events.length cv):=⟨_,rfl⟩;have mH:Blk W5 G 158 (Za ⟨4,r,0,ZCz,events⟩ (.slice av events.length cv)):=by rw[gK];exact lY.out.ai 8 _
 have pG:Blk W5 w3.heap.size 225 #[.bool true,.bool false,.bool false]:=by rw[gK];exact i9.out.far vR _
 have yb:Blk W5 w.heap.size 158 (Za ⟨0,0,0,ZCz,[]⟩ (.slice none 0 0)):=by rw[gK];exact fU.out.far l6 _
 have rZ:Kept w.heap.size w W5:=by rw[gK];exact cZ.out.setCell (by show w.heap.size<=G;omega) _
 have Er:W5.ownsRow BB 89 12 (.slice av events.length cv) events.length (evCells events):=by
  rw[gK];exact Zh sR.out (λ g hg _=>Below.heap_setCell _ _ _ _ (λ e=>by have:=Zb sR.out hg;have e:g=G:=e;omega))
 obtain⟨d0,d1,d2⟩:=pG.three;obtain⟨x0,x1,x2⟩:=i9.out.three;have rC:=pG.lt;have yA:=i9.out.lt;obtain⟨mD,gH,fi,py,sS⟩:=ZH5 mH yb rZ gK Er;clear mH pG yb rZ gK Er;go_wp2_with fail;rw[←py.out];go_loopw [9,10,72] (λ ok _ i wr=>∃ j:Nat,j<=5/\i = .int .i64 j/\ok = .bool true/\wr=W5) (λ _ _ i _=>5-(intOf i).toNat)
 case atStart=>exact⟨0,ZO,rfl,rfl,rfl⟩
 case round =>
  obtain⟨j,hj,rfl,rfl,rfl⟩:=hrel;by_cases qx:j<5
  ·have Ca:(j:Int)<5:=ZO;go_wp2
   go_roundw
   case rel=>exact⟨j+1,ZO,ZN,rfl,by first | rfl | trivial⟩
   case measure=>simp[intOf];omega
  ·obtain rfl:j=5:=ZO
   go_wp2_with (first
    |(refine wpList_load_row rfl 158 (.tmp 7) rfl G rfl 158 (Za ⟨4,r,0,ZCz,events⟩ (.slice av events.length cv)) (0,0) _ mD.out underlying158 rfl (Zap _ _) ?_)
    |(refine wpList_store_row rfl 158 (.tmp 2) (.tmp 93) rfl w.heap.size (Za ⟨4,r,0,ZCz,events⟩ (.slice av events.length cv)) rfl rfl 158 (Za ⟨0,0,0,ZCz,[]⟩ (.slice none 0 0)) gH.out (Zap _ _) rfl (Zbc _ _ _ _) ?_))
   refine bodyPost_ret (Zn rfl rfl rfl (run_loadVar_row _ _ _ _ _ _ _ (gH.out.row _) underlying158 rfl (Zap _ _))) rfl ?_;exact⟨(.slice av events.length cv),rfl,Zi (Zh sS.out (λ g hg _=>setRow_other _ _ _ _ (by have:=Zb sS.out hg;omega))) ZO,(fi.out.row (ZL _) _).below⟩
end Go.Proofs.YtjkfognelhiepaaGreat
