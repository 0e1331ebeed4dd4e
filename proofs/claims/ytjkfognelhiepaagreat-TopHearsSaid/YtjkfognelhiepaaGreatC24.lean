import Derived.Test.YtjkfognelhiepaaGreatC23
namespace Go.Proofs.YtjkfognelhiepaaGreat
open Go.RowKit _root_.Go.Proofs.Tryz
set_option maxRecDepth 100000
set_option maxHeartbeats 8000000
theorem ZkF{own:Own}{t p r:Nat}{w:World}{c:Cfg}{s:NodeSt}(h:NodeAt own t w p c r s){l:List Nat}{a:Option Addr}{n cap:Nat}(hb:Bytes w a n cap l)(hs:∀ x∈l,x<256)(hn:n<=2048)(gr:¬ Zdm l):
  Calls prog 51 #[ptrV p,.slice a n cap] w (Zv (.int .i64 (if s.up=true then 4 else 18)) w):=by
 obtain⟨h1,dp,bp,ip,op,lv,h3,h4,h5,h6,h7,h8⟩:=h;obtain⟨c6,c7,c8,c9,cP,cR,dX,dY⟩:=h3.ag;have ce:=h3.lt;have dR:∀ (x:Bool) (w:World),(Op.unary .not (.bool x)).run prog w = .ok (.bool (!x)) w:=λ _ _=>rfl
 obtain⟨j6,HS,rU⟩:=ZH3 hb hs gr;clear h1 h3 h4 h5 h6 h7 h8 hb hs gr;obtain⟨up,d,log,sent,book,clk,held,wait⟩:=s;rcases up with _ | _
 ·go_enter func51,ntmps51;go_wp2
  go_ret;exact⟨rfl,ZW _ _⟩
 ·go_enter func51,ntmps51;go_wp2_with fail;refine(ZjY j6.out HS.out hn rU.out).mono ?_;rintro _ w2 ⟨rfl,bW⟩;have HZ:=ZH (ZBn w2 158 (Za ZcA (.slice none 0 0)));have bZ:=((bW.alloc bW.size (.cells (Za ZcA (.slice none 0 0)) 158)));have hk:Kept w.heap.size w (w2.alloc (.cells (Za ZcA (.slice none 0 0)) 158)):=⟨bZ,bZ.size⟩;have HK:=ZH (hk.row bW.size (Za ZcA (.slice none 0 0)));clear bZ hk bW c6 c7 c8 c9 cP cR dX dY
  go_wp2_with (first
   |(refine Zy rfl 158 rfl (Za ZcA (.slice none 0 0)) ZK ?_)
   |(refine wpList_store_row rfl 158 (.tmp 5) (.tmp 17) rfl w2.heap.size (Za ZcA (.slice none 0 0)) rfl rfl 158 (Za ZcA (.slice none 0 0)) HZ.out (Zap _ _) rfl (Zbc _ _ _ _) ?_))
  go_ret;exact⟨rfl,HK.out.below⟩
section
section
variable {own:Own}{t p m b:Nat}{w:World}{c:Cfg}{B:Bd}{x:WS}
theorem Zir(_ht:0<t)(h:WorldAt own t w p c x)(hf:Fresh own w)(h5:c.n<=5){to:Nat}{l:List Nat}{a:Option Addr}{n cap:Nat}(fX:Bytes w a n cap l)(hs:∀ x∈l,x<256)(fe:n<=2048)(gr:¬ Zdm l):
  Calls prog 61 #[ptrV p,Zrr to (.slice a n cap)] w λ e w'=>e = .returned (.int .i64 (Ze3 c x to))/\∃ own',WorldAt own' t w' p c x/\Upd (Zp t) own own' w w':=by
 have cD:=(ZW w.heap.size w).alloc (ZL _) (.cells #[.int .i64 to,.slice a n cap] 136);have hX:=ZBn w 136 #[.int .i64 to,.slice a n cap];have cX:Upd (λ _=>False) own own w (w.alloc (.cells #[.int .i64 to,.slice a n cap] 136)):=ZUb cD hf;obtain⟨HW,j6⟩:=ZH2 (h.upd cX (λ _ _ h=>h) (λ h=>h) h5) (fX.kept cD (ZL _));obtain⟨x0,x1⟩:=hX.two;have fy:=hX.lt;obtain⟨HU,HX,HS,rU⟩:=ZH4 cX hX hs gr;clear h hf fX cD hX cX hs gr;go_enter func61,ntmps61;go_wp2_with fail;generalize (w.alloc (.cells #[.int .i64 to,.slice a n cap] 136))=W at *;by_cases hn:to<c.n
 ·refine(ZaG HW.out hn).mono ?_;rintro _ w1 ⟨rfl,bS⟩;have co:Upd (λ _=>False) own own W w1:=ZUb bS HU.out.fresh;have dl:=HW.out.upd co (λ _ _ h=>h) (λ h=>h) h5;obtain⟨g,k,hp,lp,q,bY,eB,bU,de,eS⟩:=dl.node hn h5;have fJ:(0:Int)<=(to:Int):=ZO;have km:(to:Int)<(c.n:Int):=ZO;obtain⟨HB,mR,HN,ft,da,fA,pm⟩:=ZH7 bY bU de dl (HU.out.trans co) (HX.out.ob bS) (j6.out.kept bS (ZL _));clear bS co dl bY bU de eS x0 x1 fy;go_wp2_with fail;refine ZSi [(0,3),(1,0),(2,3),(3,0),(4,3),(5,0),(6,3),(7,0),(8,3),(9,0),(10,2),(11,3)] λ bR=>?_
  repeat((first | refine ZSa ?_ | refine ZSb ?_ | (refine Zf (v:=?_) rfl (by rfl) ?_ ?_;rotate_left 1;(intro w' ci;(obtain⟨c0,c1,c2⟩:=(HB.out.ob ci.below).three);(obtain⟨x0,x1⟩:=(fA.out.ob ci.below).two);(have ib:=(ci.below.cell (p:=⟨g,to,none⟩) eB).trans mR.out);go_simp;with_reducible rfl)));simp only[Act.put,ZA,ZB,ZC])
  refine ZSe λ K hK=>?_
  go_simp;have dk:Upd (λ _=>False) own own w1 w1.drew:=ZUb (ZW w1.heap.size w1).drew da.out.fresh;refine(ZkF (HN.out.upd dk (λ _ _ h=>h)) (pm.out.kept (ZW w1.heap.size w1).drew (ZL _)) HS.out fe rU.out).mono ?_;rintro _ w2 ⟨rfl,bW⟩;have se:=dk.kept bW;have eJ:=ZH (ft.out.upd se (λ _ _ h=>h) (λ h=>h) h5);have fF:Hid (Upd (Zp t) own own w w2):=ZH ((da.out.trans se).mono (λ n h=>h.elim));refine hK.out _ _ ?_;clear hK K bR dk bW se;have e:(if (x.nodes to).s.up=true then(4:Int) else 18)=((Ze3 c x to:Nat):Int):=by unfold Ze3;rw[if_pos hn];split <;> rfl
  rw[e];obtain⟨k,hk⟩:∃ k,k=Ze3 c x to:=⟨_,rfl⟩;rw[←hk];have HK:=ZH hk;clear e hk;repeat((first | refine ZSa ?_ | refine ZSb ?_ | refine ZSc ?_);simp only[Act.put,ZA,ZB,ZC])
  refine ZSf ?_;go_wp2
  go_ret;exact⟨by rw[←HK.out];rfl,own,eJ.out,fF.out⟩
 ·refine(Za5 HW.out (.inr ZO)).mono ?_;rintro _ w1 ⟨rfl,bS⟩;have co:Upd (λ _=>False) own own W w1:=ZUb bS HU.out.fresh;have dl:=HW.out.upd co (λ _ _ h=>h) (λ h=>h) h5;obtain⟨vn,hp,lp,bY,fI,eS⟩:=dl.hub;obtain⟨HB,HN,ft,da,fA,pm⟩:=ZH6 bY fI dl (HU.out.trans co) (HX.out.ob bS) (j6.out.kept bS (ZL _));clear bS co dl bY fI eS x0 x1 fy;go_wp2_with fail;refine ZSi [(0,3),(1,0),(2,3),(3,0),(4,3),(5,0),(6,2),(7,3),(8,3),(9,3),(10,3),(11,3),(12,3),(13,3)] λ bR=>?_
  repeat((first | refine ZSa ?_ | refine ZSb ?_ | (refine Zf rfl (by rfl) (λ w' ci=>by(obtain⟨c0,c1,c2⟩:=(HB.out.ob ci.below).three);(obtain⟨x0,x1⟩:=(fA.out.ob ci.below).two);go_simp;with_reducible rfl) ?_));simp only[Act.put,ZA,ZB,ZC])
  refine ZSe λ K hK=>?_
  go_simp;have dk:Upd (λ _=>False) own own w1 w1.drew:=ZUb (ZW w1.heap.size w1).drew da.out.fresh;refine(Zlj (HubAt.upd HN.out dk (λ _ _ h=>h) (by have:=HN.out.len;omega)) (pm.out.kept (ZW w1.heap.size w1).drew (ZL _)) HS.out fe rU.out).mono ?_;rintro _ w2 ⟨rfl,bW⟩;have se:=dk.kept bW;have eJ:=ZH (ft.out.upd se (λ _ _ h=>h) (λ h=>h) h5);have fF:Hid (Upd (Zp t) own own w w2):=ZH ((da.out.trans se).mono (λ n h=>h.elim));refine hK.out _ _ ?_;clear hK K bR dk bW se;repeat((first | refine ZSa ?_ | refine ZSb ?_ | refine ZSc ?_);simp only[Act.put,ZA,ZB,ZC])
  refine ZSf ?_;have e:(if x.hub.s.up=true then(4:Int) else 18)=((Ze3 c x to:Nat):Int):=by unfold Ze3;rw[if_neg hn];split <;> rfl
  rw[e];have hz:Ze3 c x to≠0:=by
   unfold Ze3;rw[if_neg hn];split <;> omega
  obtain⟨k,hk⟩:∃ k,k=Ze3 c x to:=⟨_,rfl⟩;rw[←hk] at hz ⊢;have sg:((k:Int)==0)=false:=ZP;have HK:=ZH hk;clear e hk;go_wp2
  go_ret;exact⟨by rw[←HK.out];rfl,own,eJ.out,fF.out⟩
end
end
theorem Zr4(k a b:Nat):2 ^ k*(a ^^^ b)=2 ^ k*a ^^^ 2 ^ k*b:=by
 have e:=Nat.shiftLeft_xor_distrib (a:=a) (b:=b) (i:=k);simp only[Nat.shiftLeft_eq] at e;rw[Nat.mul_comm (2 ^ k),Nat.mul_comm (2 ^ k),Nat.mul_comm (2 ^ k)];exact e
theorem Zr0{x i:Nat}(h:x<2 ^ i):2 ^ i+x=x ^^^ 2 ^ i:=by
 have h1:=Nat.two_pow_add_eq_or_of_lt (b:=x) (i:=i) h 1;rw[Nat.mul_one] at h1;rw[h1];apply Nat.eq_of_testBit_eq;intro j;rw[Nat.testBit_xor,Nat.testBit_or,Nat.testBit_two_pow];by_cases hj:i=j
 ·subst hj;have:x.testBit i=false:=Nat.testBit_lt_two_pow h;simp[this]
 ·simp[hj]
theorem Zqx{m q:Nat}(h:m / 2 ^ q%2=1):m%2 ^ (q+1)=m%2 ^ q ^^^ 2 ^ q:=by
 have hl:m%2 ^ q<2 ^ q:=Nat.mod_lt _ (Nat.two_pow_pos q);rw[Nat.mod_pow_succ,h,Nat.mul_one,Nat.add_comm,Zr0 hl]
theorem Zr2{m q:Nat}(h:m / 2 ^ q%2=0):m%2 ^ (q+1)=m%2 ^ q:=by
 rw[Nat.mod_pow_succ,h,Nat.mul_zero,Nat.add_zero]
theorem Zsa{b:Nat}(h:b<8):(2:Int) ^ b%256=((2 ^ b:Nat):Int):=by
 rcases(by omega:b=0∨b=1∨b=2∨b=3∨b=4∨b=5∨b=6∨b=7) with rfl | rfl | rfl | rfl | rfl | rfl | rfl | rfl <;> rfl
def Turned(s t:List Nat)(k:Nat)(mask q:Nat):Prop:=t.length=s.length/\(∀ x∈t,x<256)/\big t=big s ^^^ 2 ^ k*(mask%2 ^ q)
theorem Turned.zero{s:List Nat}(hs:∀ x∈s,x<256)(k mask:Nat):Turned s s k mask 0:=⟨rfl,hs,by simp[Nat.mod_one]⟩
theorem Turned.no{s t:List Nat}{k mask q:Nat}(h:Turned s t k mask q)(h0:mask / 2 ^ q%2=0):Turned s t k mask (q+1):=⟨h.1,h.2.1,by rw[Zr2 h0];exact h.2.2⟩
theorem Turned.yes{s t:List Nat}{k mask q:Nat}(h:Turned s t k mask q)(h1:mask / 2 ^ q%2=1)(hq:k+q<8*s.length):
  Turned s (t.set ((k+q) / 8) (t.getD ((k+q) / 8) 0 ^^^ 2 ^ ((k+q)%8))) k mask (q+1):=by
 obtain⟨hl,hs,hb⟩:=h;have hj:(k+q) / 8<t.length:=ZO;have Az:=ZkV hs hj (b:=(k+q)%8) ZO;refine⟨by rw[List.length_set,hl],?_,?_⟩
 ·intro x hx;rcases List.mem_or_eq_of_mem_set hx with h | h
  ·exact hs x h
  ·rw[h];exact Nat.xor_lt_two_pow (n:=8) (Zf9 hs _) (Nat.pow_lt_pow_right (n:=8) ZO ZO)
 ·rw[Az,Zqx h1,Zr4,hb,show 8*((k+q) / 8)+(k+q)%8=k+q by omega,Nat.pow_add,Nat.xor_assoc]
theorem ZmG{l t:List Nat}{k mask q:Nat}(hl:∀ x∈l,x<256)(h:Turned (Zau l) t k mask q)(hk:k<=8*(Zau l).length)(hm:mask<4294967296)(ho:Zdm t):t=Zau l:=by
 obtain⟨h1,h2,h3⟩:=h;have hlen:t.length-4+4=t.length:=by have:=ho.1;omega
 have qE:=ho.2;have e:t=t.take (t.length-4)++t.drop (t.length-4):=(List.take_append_drop _ _).symm;have hr:regN ZcZ t=ZjE:=by
  have hd:(t.drop (t.length-4)).length=4:=by rw[List.length_drop];omega
  have:=(Zkf (l:=t.take (t.length-4)) (d:=t.drop (t.length-4)) (λ x hx=>h2 x (List.mem_of_mem_take hx)) (λ x hx=>h2 x (List.mem_of_mem_drop hx)) hd).1 qE;rwa [←e] at this
 refine ZsJ (ZeT hl) h2 h1 hk (w:=mask%2 ^ q) (Nat.lt_of_le_of_lt (Nat.mod_le _ _) hm) h3 ?_;rw[hr,Zq5 hl]
theorem Zsc{bit:Int}{n:Nat}(hn:0<n):(0<=bit.tmod n/\∃ k:Nat,bit.tmod n=(k:Int)/\k<n)∨(bit.tmod n<0/\∃ k:Nat,bit.tmod n+n=(k:Int)/\k<n):=by
 have h0:=Int.tmod_lt_of_pos bit (b:=(n:Int)) ZO;have h1:=Int.lt_tmod_of_pos bit (b:=(n:Int)) ZO;by_cases h:0<=bit.tmod n
 ·exact .inl ⟨h,(bit.tmod n).toNat,ZO,ZO⟩
 ·exact .inr ⟨ZO,(bit.tmod n+n).toNat,ZO,ZO⟩
def Zoy(s:List Nat)(mask:Nat)(w:World)(r:Ending)(w':World):Prop:=∃ v t k q,r = .returned v/\w'.ownsRow w.heap.size 5 1 v t.length (cells t)/\Turned s t k mask q/\k<=8*s.length/\Below w.heap.size w w'
theorem ZoH(a:Option Addr)(n cap:Nat)(s:List Nat)(bit:Int)(mask:Nat)(w:World)(h:Bytes w a n cap s)(hs:∀ x∈s,x<256)(fJ:0<n)(hn:n<=100000)(hm:mask<4294967296):
  Calls prog 60 #[.slice a n cap,.int .i64 bit,.int .u32 mask] w (Zoy s mask w):=by
 have hlen:=h.len;obtain⟨sv,fE,HS⟩:=ZH3 (Zeo h ZO) hlen hs;clear h hs hlen;obtain⟨N,hN⟩:∃ N:Nat,N=8*n:=⟨_,rfl⟩;have hwN:IntKind.i64.wrap (8*(n:Int))=(N:Int):=by rw[IntKind.wrap_i64];omega
 have hzN:((N:Int)==0)=false:=by rw[beq_eq_false_iff_ne];omega
 have hzN2:¬ (N:Int)=0:=ZO;have fk:IntKind.i64.wrap (bit.tmod N)=bit.tmod N:=by
  have h0:=Int.tmod_lt_of_pos bit (b:=(N:Int)) ZO;have h1:=Int.lt_tmod_of_pos bit (b:=(N:Int)) ZO;rw[IntKind.wrap_i64];omega
 have Ip:N<=800000:=ZO;have jM:=ZH hN;have ed:=Zsc (bit:=bit) (n:=N) ZO;clear hN;rcases ed with ⟨eL,k,hk,il⟩|⟨wP,k,hk,il⟩
 focus
  have ce:decide (bit.tmod (N:Int)<0)=false:=ZP;rw[hk] at fk ce
 rotate_left
 focus
  have ce:decide (bit.tmod (N:Int)<0)=true:=ZP;have Ew:IntKind.i64.wrap (bit.tmod (N:Int)+(N:Int))=(k:Int):=by rw[hk,IntKind.wrap_i64];omega
  clear hk wP
 rotate_left
 all_goals
  go_enter func60,ntmps60;go_wp2_with fail;refine sv.out.mono ?_;rintro _ w3 ⟨v3,rfl,dB,bZ⟩;have Pg:=fE.out;rw[Pg] at dB;obtain⟨g,c4,rfl,Li,_⟩:=ZqF dB ZO;have O0:=(Zb dB rfl).2;have cY:Kept w.heap.size w w3:=Kept.start bZ;obtain⟨gV,RC⟩:=ZH2 dB (Turned.zero HS.out k mask);clear dB bZ Pg;go_wp2_with fail;go_loopw [10] (λ i wr=>∃ (q:Nat) (tl:List Nat),q<=32/\i = .int .i64 q/\Hid (Turned s tl k mask q)/\Hid (wr.ownsRow w.heap.size 5 1 (.slice (some ⟨g,0,none⟩) n c4) n (cells tl))/\Hid (Kept w.heap.size w wr)/\g<wr.heap.size) (λ i _=>32-(intOf i).toNat)
  case atStart=>exact⟨0,s,ZO,rfl,RC,gV,ZH cY,O0⟩
  case round =>
   clear cY O0;obtain⟨q,tl,hq,rfl,HT,HO,HK,O1⟩:=hrel;have uf:IntKind.i64.wrap ((N:Int)-(k:Int))=(N:Int)-(k:Int):=by rw[IntKind.wrap_i64];omega
   by_cases gB:q<32/\k+q<N
   ·obtain⟨Mi,IF⟩:=gB;have nk:decide ((q:Int)<32)=true:=ZP;have eN:decide ((q:Int)<(N:Int)-(k:Int))=true:=ZP;have i6:(mask:Int) / 2 ^ q=((mask / 2 ^ q:Nat):Int):=ZM;have Aw:=ZhE (x:=mask / 2 ^ q) (Nat.lt_of_le_of_lt (Nat.div_le_self _ _) hm);rw[←i6] at Aw;rcases Nat.mod_two_eq_zero_or_one (mask / 2 ^ q) with h2 | h2
    ·have F4:=HT.out.no h2;rw[h2] at Aw;have Kj:=ZH F4;clear h2 F4 i6;go_wp2
     go_roundw
     case rel=>exact⟨q+1,tl,ZO,ZN,Kj,HO,HK,O1⟩
     case measure=>simp[intOf];omega
    ·rw[h2] at Aw;have hlen:tl.length=n:=by rw[HT.out.1,fE.out]
     have F4:=HT.out.yes h2 (by rw[fE.out,←jM.out];exact IF);have hj:(k+q) / 8<n:=by have:=jM.out;omega
     have bU:=HO.out.cellAt ((k+q) / 8) ZO;rw[ZgQ ZO] at bU;have gA:=HO.out.frozenAt ((k+q) / 8);have F2:=Zsa (b:=(k+q)%8) ZO;have yp:=Zf9 HT.out.2.1 ((k+q) / 8);have Gn:=u8_xor_nat (tl.getD ((k+q) / 8) 0) (2 ^ ((k+q)%8)) yp (Nat.pow_lt_pow_right (n:=8) ZO ZO);obtain⟨yH,EZ⟩:=HO.out.stored ((k+q) / 8) (.int .u8 ((tl.getD ((k+q) / 8) 0 ^^^ 2 ^ ((k+q)%8):Nat):Int));have Ca:((k:Int)+(q:Int)).tdiv 8=(((k+q) / 8:Nat):Int):=by rw[Int.tdiv_eq_ediv_of_nonneg ZO];omega
     have hbI:((k:Int)+(q:Int)).tmod 8=(((k+q)%8:Nat):Int):=by rw[Int.tmod_eq_emod_of_nonneg ZO];omega
     have hwj:IntKind.i64.wrap (((k+q) / 8:Nat):Int)=(((k+q) / 8:Nat):Int):=IntWalk.i64_in _ ZO;have Cl:IntKind.i64.wrap (((k+q)%8:Nat):Int)=(((k+q)%8:Nat):Int):=IntWalk.i64_in _ ZO;have qI:IntKind.i64.wrap ((k:Int)+(q:Int))=(k:Int)+(q:Int):=IntWalk.i64_in _ ZO;generalize (k+q) / 8=j at *;have fS:(k+q)%8<8:=ZO;have hjm:(j:Int)<(n:Int):=ZO;generalize (k+q)%8=b at *;generalize tl.getD j 0 ^^^ 2 ^ b=D at *;generalize tl.getD j 0=old at *;generalize (2:Nat) ^ b=pb at F2 Gn;obtain⟨Kj,Rm,HG',HD⟩:=ZH4 F4 yH EZ (show bits .xor .u8 (old:Int) ((2:Int) ^ b%256)=(D:Int) by rw[F2];exact Gn);clear h2 F4 i6 yH EZ;go_wp2_with fail;refine ZSi [(0,3),(1,3),(2,3),(3,3),(4,3),(5,3),(6,0),(7,3),(8,3),(9,3),(10,3),(11,3),(12,3),(13,3),(14,2)] λ bR=>?_
     repeat((first | refine ZSa ?_ | refine ZSb ?_ | refine ZSc ?_);simp only[Act.put,ZA,ZB,ZC])
     refine ZSe λ K hK=>?_
     go_simp;refine hK.out _ _ ?_;clear hK K;refine ZSf ?_;go_wp2_with fail;have dF:=(HK.out.setCell (p:=⟨g,j,none⟩) Li (.int .u8 (D:Int))).drew;have du:=Rm.out;rw[ZoL] at du;have jG:=ZH (show World.ownsRow (wr.setCell ⟨g,j,none⟩ (.int .u8 (D:Int))).drew w.heap.size 5 1 (.slice (some ⟨g,0,none⟩) n c4) n (cells (tl.set j D)) from du);go_roundw
     case rel=>rw[HD.out];exact⟨q+1,tl.set j D,ZO,ZN,Kj,jG,ZH dF,by simpa [World.setCell] using O1⟩
     case measure=>simp[intOf];omega
   ·have OZ:(decide ((q:Int)<32)&&decide ((q:Int)<(N:Int)-(k:Int)))=false:=by
     rw[Bool.and_eq_false_iff];by_cases h1:q<32
     ·exact .inr ZP
     ·exact .inl ZP
    have hlen:tl.length=n:=by rw[HT.out.1,fE.out]
    by_cases Mi:q<32
    focus
     have nk:decide ((q:Int)<32)=true:=ZP;have eN:decide ((q:Int)<(N:Int)-(k:Int))=false:=ZP
    rotate_left
    focus
     have nk:decide ((q:Int)<32)=false:=ZP
    rotate_left
    all_goals
     have HL:=ZH hlen;clear hlen gB OZ;go_wp2
     go_ret;exact⟨_,tl,k,q,rfl,by rw[HL.out];exact HO.out,HT.out,by rw[fE.out,←jM.out];omega,HK.out.below⟩
theorem Zjr{own:Own}{t p:Nat}{w:World}{fs:List Fl}(h:LinkAt own t w p fs)(hf:Fresh own w)(i:Int)(hi:i<0∨(fs.length:Int)<=i):
  Calls prog 58 #[.pointer (some ⟨p,0,none⟩),.int .i64 i] w (Zv (.tuple #[.agg #[.int .i64 0,.slice none 0 0],.int .i64 24]) w):=by
 have cA:=(ZKr w).alloc (.cells #[.int .i64 0,.slice none 0 0] 136);have HX:=ZH (ZBn w 136 #[.int .i64 0,.slice none 0 0]);have lJ:=h.upd (ZUb (T:=λ _=>False) cA.below hf) (λ h=>h) (λ h=>h);obtain⟨qP,HK⟩:=ZH2 (ZfK lJ i hi) cA;clear h hf cA lJ hi;go_enter func58,ntmps58;go_wp2_with fail;refine qP.out.mono ?_;rintro _ w1 ⟨rfl,bS⟩;have dE:=(HK.out.step bS).alloc (.cells #[.int .i64 0,.slice none 0 0] 136);have p7:=(HX.out.ob bS).alloc (.cells #[.int .i64 0,.slice none 0 0] 136);have rD:=(HX.out.ob bS).lt;obtain⟨W,hW⟩:∃ W,W=w1.alloc (.cells #[.int .i64 0,.slice none 0 0] 136):=⟨_,rfl⟩;rw[←hW] at dE p7;obtain⟨cE,fA,HW⟩:=ZH3 dE p7 hW;clear dE p7 hW bS
 go_wp2_with (first
  |(refine Zan rfl 136 _ rfl #[.int .i64 0,.slice none 0 0] ZK ?_)
  |(refine wpList_store_row rfl 136 (.tmp 4) (.tmp 16) rfl w.heap.size #[.int .i64 0,.slice none 0 0] rfl rfl 136 #[.int .i64 0,.slice none 0 0] (by rw[←HW.out];exact fA.out) ZK rfl (ZoX _ _ _ _) ?_
    rw[←HW.out]))
 refine bodyPost_ret (Zn rfl rfl rfl (run_loadVar_row _ _ _ _ _ _ _ (fA.out.row _) underlying136 rfl ZK)) rfl ?_;exact⟨rfl,(cE.out.row (ZL _) _).below⟩
section
abbrev Zaz(s:St):Array Value:=#[.int .i64 s.kind,.int .i64 s.r,.int .i64 s.ek,.string s.key,.int .i64 s.label,.string s.value,.int .i64 s.at_,.int .i64 s.bit,.int .u32 s.mask,.int .i64 s.keep]
abbrev ZkP(s:St):Value := .agg (Zaz s)
theorem Blk.aM{w:World}{g:Nat}{ty:TypeId}{v0 v1 v2 v3 v4 v5 v6 v7 v8 v9:Value}(h:Blk w g ty #[v0,v1,v2,v3,v4,v5,v6,v7,v8,v9]):w.cell? ⟨g,0,none⟩=some v0/\w.cell? ⟨g,1,none⟩=some v1/\w.cell? ⟨g,2,none⟩=some v2/\w.cell? ⟨g,3,none⟩=some v3/\w.cell? ⟨g,4,none⟩=some v4/\w.cell? ⟨g,5,none⟩=some v5/\w.cell? ⟨g,6,none⟩=some v6/\w.cell? ⟨g,7,none⟩=some v7/\w.cell? ⟨g,8,none⟩=some v8/\w.cell? ⟨g,9,none⟩=some v9 :=
 ⟨h.cell 0,h.cell 1,h.cell 2,h.cell 3,h.cell 4,h.cell 5,h.cell 6,h.cell 7,h.cell 8,h.cell 9⟩
def Zu(s:St)(b:Bool):St:=⟨s.kind,s.r,s.ek,s.key,s.label,s.value,s.at_,s.bit,s.mask,s.keep,b⟩
def ZdI(own:Own)(t p:Nat)(c:Cfg)(w:World)(s:St)(f:St->WS × Nat)(e:Ending)(w':World):Prop :=
 ∃ tb,(s.kind≠7->tb=s.turned)/\e = .returned (.int .i64 (f (Zu s tb)).2)/\∃ own',WorldAt own' t w' p c (f (Zu s tb)).1/\Upd (Zp t) own own' w w'
theorem Zmd{c:Cfg}{x:WS}{s:St}(h:s.at_<0∨(x.link.length:Int)<=s.at_):ZcH c x s=(x,24):=by
 unfold ZcH;split
 ·rfl
 ·rw[List.getElem?_eq_none ZO]
theorem ZdA{c:Cfg}{x:WS}{s:St}{i:Nat}{q:Nat × Frm}(hs:s.at_=i)(h:x.link[i]? = some q):ZcH c x s =
  if s.kind=6 then(⟨x.nodes,x.hub,Zd2 x s q⟩,0)
  else if s.kind=7/\s.turned=true then(⟨x.nodes,x.hub,Zd2 x s q⟩,Ze3 c x q.1)
  else Zb8 c ⟨x.nodes,x.hub,Zd2 x s q⟩ q.1 q.2:=by
 unfold ZcH;rw[if_neg ZO,hs,Int.toNat_natCast,h]
theorem Zsp{l:List (Nat × Frm)}{i:Nat}{q:Nat × Frm}(h:l[i]? = some q):(flsOf l)[i]? = some ⟨q.1,Zk q.2⟩:=by
 unfold flsOf;rw[List.getElem?_map,h];rfl
theorem FlG.okF{c:Cfg}{B:Bd}{q:Nat × Frm}(h:FlG c B q):q.2.Ok:=by
 rcases h with ⟨_,h⟩|⟨_,h⟩ <;> exact h.ok
section
variable {own:Own}{t p m b:Nat}{w:World}{c:Cfg}{B:Bd}{x:WS}{s:St}
theorem Zd9(ht:0<t)(h:WorldAt own t w p c x)(hf:Fresh own w)(hi:WInv c B m b x)(hc:c.Ok)(hm:m<=100)(hb:b<=700)(hs:StOk c s)(hk:4<=s.kind/\s.kind<=7):
  Calls prog 32 #[ptrV p,ZkP s] w (ZdI own t p c w s (ZcH c x)):=by
 have h5:=hc.n5;have cD:=(ZW w.heap.size w).alloc (ZL _) (.cells (Zaz s) 36);have hX:=ZBn w 36 (Zaz s);have cX:Upd (λ _=>False) own own w (w.alloc (.cells (Zaz s) 36)):=ZUb cD hf;have qI:=h.upd cX (λ _ _ h=>h) (λ h=>h) h5;obtain⟨vn,hp,lp,bY,kV,eS⟩:=qI.link;obtain⟨c0,c1,c2⟩:=bY.three;obtain⟨x0,x1,x2,x3,x4,x5,x6,x7,x8,x9⟩:=hX.aM;have fy:=hX.lt;have cQ:=bY.lt;have NJ:Hid (own w.heap.size=0):=ZH (hf _ (ZL _));obtain⟨HU,HX,HI,HC,HW,HB,Hr,jm,HS⟩:=ZH9 cX hX hi hc qI bY kV eS hs;clear h hf hi cD hX cX qI bY kV eS hs;obtain⟨kind,sr,ek,key,label,value,at_,bit,mask,keep,turned⟩:=s;simp only at hk;have hlen:x.link.length<=700:=ZT HI.out.len hb;have jQ:(flsOf x.link).length=x.link.length:=by unfold flsOf;rw[List.length_map]
 by_cases uG:at_<0∨(x.link.length:Int)<=at_
 ·by_cases ef:kind=5
  focus
   subst ef;go_enter func32,ntmps32;go_wp2_with fail;generalize (w.alloc (.cells (Zaz ⟨5,sr,ek,key,label,value,_,bit,mask,keep,turned⟩) 36))=W0 at *;clear c0 c1 c2 x0 x1 x2 x3 x4 x5 x6 x7 x8 x9;refine(ZfK Hr.out at_ (by rw[jQ];exact uG)).mono ?_
  rotate_left
  focus
   have BH:((kind:Int)==5)=false:=ZP;go_enter func32,ntmps32;go_wp2_with fail;generalize (w.alloc (.cells (Zaz ⟨kind,sr,ek,key,label,value,_,bit,mask,keep,turned⟩) 36))=W0 at *;clear c0 c1 c2 x0 x1 x2 x3 x4 x5 x6 x7 x8 x9;refine(Zjr Hr.out HU.out.fresh at_ (by rw[jQ];exact uG)).mono ?_
  rotate_left
  all_goals
   rintro _ w1 ⟨rfl,bS⟩;have bW:=bS.alloc bS.size (.cells #[.int .i64 0,.slice none 0 0] 136);have ft:=ZH (HW.out.upd (ZUb bW HU.out.fresh) (T:=λ _=>False) (λ _ _ h=>h) (λ h=>h) h5);have da:Hid (Upd (Zp t) own own w _):=ZH ((HU.out.kept bW).mono λ n h=>h.elim);clear bS bW;go_wp2
   go_ret;refine⟨turned,λ _=>rfl,?_⟩;rw[Zmd uG];exact⟨rfl,own,ft.out,da.out⟩
 ·obtain⟨i,rfl⟩:∃ i:Nat,at_=i:=⟨at_.toNat,ZO⟩;obtain⟨q,hq⟩:∃ q,x.link[i]? = some q:=⟨_,ZX ZO⟩;have OY:=Zsp hq;have hg:=HI.out.link q (ZY hq);have kI:=ZcI hg.okF;obtain⟨HQ,HG⟩:=ZH2 hq hg;clear hq hg;by_cases ef:kind=5
  ·subst ef;have cM:((0:Int) != 0)=false:=rfl;go_enter func32,ntmps32;go_wp2_with fail;generalize (w.alloc (.cells (Zaz ⟨5,sr,ek,key,label,value,_,bit,mask,keep,turned⟩) 36))=W0 at *;clear c0 c1 c2 x0 x1 x2 x3 x4 x5 x6 x7 x8 x9;refine(Zj6 Hr.out i OY (by simp only;omega)).mono ?_;rintro _ w1 ⟨v,rfl,eh,bS⟩;obtain⟨av,kv,rfl,fX⟩:=Bytes.ab eh;have As:=HX.out.ob bS;have co:Upd (λ _=>False) own own W0 w1:=ZUb bS HU.out.fresh;have dl:=HW.out.upd co (λ _ _ h=>h) (λ h=>h) h5;have cm:Upd (λ _=>False) own own w1 (w1.alloc (.cells #[.int .i64 q.1,.slice av (Zk q.2).length kv] 136)):=ZUb ((ZW _ w1).alloc (ZL _) _) co.fresh;have eJ:=ZH (show WorldAt own t _ p c ⟨x.nodes,x.hub,Zd2 x ⟨5,sr,ek,key,label,value,(i:Int),bit,mask,keep,turned⟩ q⟩ from dl.upd cm (λ _ _ h=>h) (λ h=>h) h5);have dc:Hid (Upd (Zp t) own own w _):=ZH (((HU.out.trans co).trans cm).mono λ n h=>h.elim);have j6:=ZH (fX.kept ((ZW w1.heap.size w1).alloc (ZL _) (.cells #[.int .i64 q.1,.slice av (Zk q.2).length kv] 136)) (ZL _));obtain⟨x0,x1,x2,x3,x4,x5,x6,x7,x8,x9⟩:=As.aM;have MK:=As.lt;have p7:=ZBn w1 136 #[.int .i64 q.1,.slice av (Zk q.2).length kv];clear eh bS fX As co dl cm;go_wp2_with fail;refine(Zfk ht eJ.out dc.out.fresh (HI.out.pick ⟨5,sr,ek,key,label,value,(i:Int),bit,mask,keep,turned⟩ q) HC.out hm hb HG.out j6.out).mono ?_;rintro _ w4 ⟨rfl,dG,lX,dS⟩;obtain⟨qj,fF⟩:=ZH2 lX (dc.out.trans dS);clear lX dS;go_wp2
   go_ret;refine⟨turned,(λ _=>rfl),?_⟩;rw[ZdA (s:=Zu _ turned) rfl HQ.out,if_neg (by simp[Zu]),if_neg (by simp[Zu])];exact⟨rfl,dG,qj.out,fF.out⟩
  ·have BH:((kind:Int)==5)=false:=ZP;have cM:((0:Int) != 0)=false:=rfl;go_enter func32,ntmps32;go_wp2_with fail;generalize (w.alloc (.cells (Zaz ⟨kind,sr,ek,key,label,value,_,bit,mask,keep,turned⟩) 36))=W0 at *;clear c0 c1 c2 x0 x1 x2 x3 x4 x5 x6 x7 x8 x9;refine(Zpa Hr.out HU.out.fresh ZO (by rw[jQ];omega) i OY (by simp only;omega)).mono ?_;rintro _ w1 ⟨v,rfl,eh,mL,co⟩;obtain⟨av,kv,rfl,fX⟩:=Bytes.ab eh.row;have lm:=HX.out.upd co (by rw[NJ.out];omega);have dl:=jm.out _ _ (x.link.eraseIdx i) h5 co (by have h:=mL;unfold flsOf at h ⊢;rw[ZcW] at h;exact h);have SW:∀ tb,Zd2 x ⟨kind,sr,ek,key,label,value,(i:Int),bit,mask,keep,tb⟩ q=x.link.eraseIdx i:=λ tb=>if_neg ef
   obtain⟨x0,x1,x2,x3,x4,x5,x6,x7,x8,x9⟩:=lm.aM;have MK:=lm.lt;have da:Hid (Upd (Zp t) own own w w1):=ZH ((HU.out.mono λ n h=>h.elim).trans (co.mono λ n h=>⟨ZO,ZO⟩));have lx:=(ZW _ w1).alloc (ZL _) (.cells #[.int .i64 q.1,.slice av (Zk q.2).length kv] 136);have cm:Upd (λ _=>False) own own w1 (w1.alloc (.cells #[.int .i64 q.1,.slice av (Zk q.2).length kv] 136)):=ZUb lx da.out.fresh;have xj:w.heap.size<=w1.heap.size:=da.out.size;have Bu:=cm.am (g:=w1.heap.size) (ZL _) (ZBn w1 136 #[.int .i64 q.1,.slice av (Zk q.2).length kv]).lt (t+5000);have dc:Hid (Upd (Zp t) own (own.at_ w1.heap.size (t+5000)) w _):=ZH (da.out.trans (Bu.mono λ n h=>h.elim));obtain⟨eJ,j6⟩:=ZH2 (show WorldAt (own.at_ w1.heap.size (t+5000)) t _ p c ⟨x.nodes,x.hub,Zd2 x ⟨kind,sr,ek,key,label,value,(i:Int),bit,mask,keep,turned⟩ q⟩ from by rw[SW];exact dl.upd Bu (λ _ _ h=>h) (λ h=>h) h5) (fX.kept lx (ZL _));have p7:=ZBn w1 136 #[.int .i64 q.1,.slice av (Zk q.2).length kv];have Sp:(own.at_ w1.heap.size (t+5000)) w1.heap.size=t+5000:=if_pos rfl;have pz:=ZH (lm.ob lx);clear eh mL co fX lm dl lx cm Bu;have nR:kind=4∨kind=6∨kind=7:=ZO;rcases nR with rfl | rfl | rfl
   ·go_wp2_with fail;refine(Zfk ht eJ.out dc.out.fresh (HI.out.pick ⟨4,sr,ek,key,label,value,(i:Int),bit,mask,keep,turned⟩ q) HC.out hm hb HG.out j6.out).mono ?_;rintro _ w4 ⟨rfl,dG,lX,dS⟩;obtain⟨qj,fF⟩:=ZH2 lX (dc.out.trans dS);clear lX dS;go_wp2
    go_ret;refine⟨turned,(λ _=>rfl),?_⟩;rw[ZdA (s:=Zu _ turned) rfl HQ.out,if_neg (by simp[Zu]),if_neg (by simp[Zu])];exact⟨rfl,dG,qj.out,fF.out⟩
   ·go_wp2
    go_ret;refine⟨turned,λ _=>rfl,?_⟩;rw[ZdA (s:=Zu _ turned) rfl HQ.out,if_pos (by simp[Zu])];exact⟨rfl,_,eJ.out,dc.out⟩
   ·generalize (own.at_ w1.heap.size (t+5000))=cg at *;go_wp2_with fail;have kP:Zdm (Zk q.2):=Zgi _;have eL:0<(Zk q.2).length:=by have:=kP.1;omega
    have cI:=ZfJ HG.out.okF;refine(ZoH _ _ _ _ bit mask _ j6.out cI eL ZO HS.out.mask).mono ?_;rintro _ w3 ⟨v,tt,k,q',rfl,ew,PC,cY,bZ⟩;obtain⟨fb,Lx⟩:∃ fb,fb=w1.heap.size:=⟨_,rfl⟩;have Gk:=p7.ob bZ;have cO:=dc.out.kept bZ;have oR:=eJ.out.upd (ZUb bZ dc.out.fresh) (T:=λ _=>False) (λ _ _ h=>h) (λ h=>h) h5;have vZ:=pz.out.ob bZ;have dS:Upd (· = t+5000) cg cg w3 (w3.setCell ⟨w1.heap.size,1,none⟩ v):=(Upd.refl (· = t+5000) cg w3 cO.fresh).setCell (p:=⟨w1.heap.size,1,none⟩) (λ _=>Sp) v;have lX:=oR.upd dS (λ n h e=>by obtain⟨h1,h2⟩:=h;omega) ZO h5
    have ie:(w3.setCell ⟨w1.heap.size,1,none⟩ v).ownsRow _ 5 1 v tt.length (cells tt):=Zh ew (λ g hg _=>Below.heap_setCell _ _ _ _ (λ e=>by
     have h1:=(Zb ew hg).1;have h2:g=w1.heap.size:=e;rw[World.size_alloc] at h1
     omega))
    obtain⟨a3,k3,hv,EI⟩:=Bytes.ab ie;subst hv;have mr:=vZ.far (p:=⟨w1.heap.size,1,none⟩) (by simp only;omega) (.slice a3 tt.length k3);have Gl:=Gk.ai 1 (.slice a3 tt.length k3);have gS:Upd (Zp t) own cg w (w3.setCell ⟨w1.heap.size,1,none⟩ (.slice a3 tt.length k3)):=cO.setCell (p:=⟨w1.heap.size,1,none⟩) (λ h=>absurd h (by simp only;omega)) _;have wB:=Gk.frozen 1;have wH:=Gk.lt;obtain⟨y0,y1⟩:=Gk.two;clear eJ dc j6 pz;obtain⟨eJ,dc,j6,Kl,cC,gx⟩:=ZH6 lX gS EI PC cY cI;obtain⟨x0,x1,x2,x3,x4,x5,x6,x7,x8,x9⟩:=vZ.aM;clear Gk cO oR vZ dS lX ew ie EI mr Gl gS bZ PC cY cI p7 Lx;go_wp2_with fail;by_cases ho:Zdm tt
    ·have e:tt=Zk q.2:=ZmG (l:=Zd (Zad q.2).length++Zad q.2) (λ z hz=>gx.out z (List.mem_append_left _ hz)) Kl.out cC.out HS.out.mask ho;subst e;refine(Zfk ht eJ.out dc.out.fresh (HI.out.pick ⟨7,sr,ek,key,label,value,(i:Int),bit,mask,keep,turned⟩ q) HC.out hm hb HG.out j6.out).mono ?_;rintro _ w4 ⟨rfl,dG,lX,dS⟩;obtain⟨qj,fF⟩:=ZH2 lX (dc.out.trans dS);clear lX dS;go_wp2
     go_ret;refine⟨false,(λ h=>absurd rfl h),?_⟩;rw[ZdA (s:=Zu _ false) rfl HQ.out,if_neg (by simp[Zu]),if_neg (by simp[Zu])];exact⟨rfl,dG,qj.out,fF.out⟩
    ·have F6:tt.length=(Zk q.2).length:=Kl.out.1;refine(Zir ht eJ.out dc.out.fresh h5 j6.out Kl.out.2.1 ZO ho).mono ?_;rintro _ w4 ⟨rfl,dG,lX,dS⟩;obtain⟨qj,fF⟩:=ZH2 lX (dc.out.trans dS);clear lX dS;go_wp2
     go_ret;refine⟨true,λ h=>absurd rfl h,?_⟩;rw[ZdA (s:=Zu _ true) rfl HQ.out,if_neg (by simp[Zu]),if_pos (by simp[Zu])];exact⟨rfl,dG,qj.out,fF.out⟩
end
end
section
theorem Zlp(q:Nat)(w:World):(method 477 83 (ptrV q) "Crash").run prog w = .ok (44,ptrV q) w:=ZK
theorem Zlq(q:Nat)(w:World):(method 477 83 (ptrV q) "Start").run prog w = .ok (45,ptrV q) w:=ZK
theorem ZnO(q:Nat)(w:World):(method 477 83 (ptrV q) "Cut").run prog w = .ok (277,ptrV q) w:=ZK
theorem Zmm(q:Nat)(w:World):(method 477 75 (ptrV q) "Crash").run prog w = .ok (46,ptrV q) w:=ZK
theorem Zmn(q:Nat)(w:World):(method 477 75 (ptrV q) "Start").run prog w = .ok (47,ptrV q) w:=ZK
theorem Zpc(q:Nat)(w:World):(method 477 75 (ptrV q) "Cut").run prog w = .ok (275,ptrV q) w:=ZK
section
variable {own:Own}{t p m b:Nat}{w:World}{c:Cfg}{B:Bd}{x:WS}{s:St}
theorem ZfB(ht:0<t)(h:WorldAt own t w p c x)(hf:Fresh own w)(hi:WInv c B m b x)(hc:c.Ok)(hm:m<=100)(hb:b<=700)(hs:StOk c s)(hk:8<=s.kind/\s.kind<=10):
  Calls prog 33 #[ptrV p,ZkP s] w (ZdI own t p c w s (ZbL c x)):=by
 have h5:=hc.n5;have eo:tot B.made<=100:=ZT hi.sum hm;have cD:=(ZW w.heap.size w).alloc (ZL _) (.cells (Zaz s) 36);have hX:=ZBn w 36 (Zaz s);have cX:Upd (λ _=>False) own own w (w.alloc (.cells (Zaz s) 36)):=ZUb cD hf;have HW:=ZH (h.upd cX (λ _ _ h=>h) (λ h=>h) h5);obtain⟨x0,x1,x2,x3,x4,x5,x6,x7,x8,x9⟩:=hX.aM;have fy:=hX.lt;have NJ:Hid (own w.heap.size=0):=ZH (hf _ (ZL _));obtain⟨HU,HX,HI,HC,HS⟩:=ZH5 cX hX hi hc hs;clear h hf hi cD hX cX hs;obtain⟨kind,sr,ek,key,label,value,at_,bit,mask,keep,turned⟩:=s;simp only at hk;have nR:kind=8∨kind=9∨kind=10:=ZO;by_cases hn:sr<c.n
 ·rcases nR with rfl | rfl | rfl
  ·
   go_enter func33,ntmps33;go_wp2_with fail;generalize (w.alloc (.cells (Zaz ⟨8,sr,ek,key,label,value,at_,bit,mask,keep,turned⟩) 36))=W at *;refine(ZaG HW.out hn).mono ?_;rintro _ w1 ⟨rfl,bS⟩;have co:Upd (λ _=>False) own own W w1:=ZUb bS HU.out.fresh;have dl:=HW.out.upd co (λ _ _ h=>h) (λ h=>h) h5;obtain⟨g,k,hp,lp,q,bY,eB,bU,de,eS⟩:=dl.node hn h5;have fJ:(0:Int)<=(sr:Int):=ZO;have km:(sr:Int)<(c.n:Int):=ZO;obtain⟨HB,mR,HN,jm,da,fA⟩:=ZH6 bY bU de eS (HU.out.trans co) (HX.out.ob bS);clear bS co dl bY bU de eS x0 x1 x2 x3 x4 x5 x6 x7 x8 x9 fy;go_wp2_with fail;refine ZSi [(0,3),(1,0),(2,3),(3,0),(4,3),(5,0),(6,3),(7,0),(8,3),(9,3)] λ bR=>?_
   repeat((first | refine ZSa ?_ | refine ZSb ?_ | (refine Zf (v:=?_) rfl (by rfl) ?_ ?_;rotate_left 1;(intro w' ci;(obtain⟨c0,c1,c2⟩:=(HB.out.ob ci.below).three);(obtain⟨x0,x1,x2,x3,x4,x5,x6,x7,x8,x9⟩:=(fA.out.ob ci.below).aM);(have ib:=(ci.below.cell (p:=⟨g,sr,none⟩) eB).trans mR.out);go_simp;with_reducible rfl)));simp only[Act.put,ZA,ZB,ZC])
   refine ZSf ?_;have bW:=(ZW w1.heap.size w1).drew;obtain⟨x0,x1,x2,x3,x4,x5,x6,x7,x8,x9⟩:=(fA.out.ob bW).aM;have fy:=fA.out.lt;have iP:=Zlp q;have dk:Upd (λ _=>False) own own w1 w1.drew:=ZUb bW da.out.fresh;clear bW bR;go_wp2_with fail;refine(ZiT (HN.out.upd dk (λ _ _ h=>h)) dk.fresh).mono ?_;rintro _ w2 ⟨rfl,fe,cm⟩;have dK:=jm.out _ _ (Zdf (x.nodes sr)) ((dk.mono (T':=NodeT (t+100+10*sr)) (λ n h=>h.elim)).trans cm) fe;have eJ:=ZH dK;have dc:Hid (Upd (Zp t) own own w w2):=ZH ((da.out.mono λ n h=>h.elim).trans (((dk.mono (T':=NodeT (t+100+10*sr)) (λ n h=>h.elim)).trans cm).mono λ n h=>h.world ZO));clear dK fe cm dk x0 x1 x2 x3 x4 x5 x6 x7 x8 x9;go_wp2
   go_ret;refine⟨turned,λ _=>rfl,?_⟩;have e:ZbL c x (Zu ⟨8,sr,ek,key,label,value,at_,bit,mask,keep,turned⟩ turned)=(⟨Zch x.nodes sr (Zdf (x.nodes sr)),x.hub,x.link⟩,0):=by simp[ZbL,Zu,hn]
   rw[e];exact⟨rfl,own,eJ.out,dc.out⟩
  ·
   go_enter func33,ntmps33;go_wp2_with fail;generalize (w.alloc (.cells (Zaz ⟨9,sr,ek,key,label,value,at_,bit,mask,keep,turned⟩) 36))=W at *;refine(ZaG HW.out hn).mono ?_;rintro _ w1 ⟨rfl,bS⟩;have co:Upd (λ _=>False) own own W w1:=ZUb bS HU.out.fresh;have dl:=HW.out.upd co (λ _ _ h=>h) (λ h=>h) h5;obtain⟨g,k,hp,lp,q,bY,eB,bU,de,eS⟩:=dl.node hn h5;have fJ:(0:Int)<=(sr:Int):=ZO;have km:(sr:Int)<(c.n:Int):=ZO;obtain⟨HB,mR,HN,jm,da,fA⟩:=ZH6 bY bU de eS (HU.out.trans co) (HX.out.ob bS);clear bS co dl bY bU de eS x0 x1 x2 x3 x4 x5 x6 x7 x8 x9 fy;go_wp2_with fail;refine ZSi [(0,3),(1,0),(2,3),(3,0),(4,3),(5,0),(6,3),(7,0),(8,3),(9,3)] λ bR=>?_
   repeat((first | refine ZSa ?_ | refine ZSb ?_ | (refine Zf (v:=?_) rfl (by rfl) ?_ ?_;rotate_left 1;(intro w' ci;(obtain⟨c0,c1,c2⟩:=(HB.out.ob ci.below).three);(obtain⟨x0,x1,x2,x3,x4,x5,x6,x7,x8,x9⟩:=(fA.out.ob ci.below).aM);(have ib:=(ci.below.cell (p:=⟨g,sr,none⟩) eB).trans mR.out);go_simp;with_reducible rfl)));simp only[Act.put,ZA,ZB,ZC])
   refine ZSf ?_;have bW:=(ZW w1.heap.size w1).drew;obtain⟨x0,x1,x2,x3,x4,x5,x6,x7,x8,x9⟩:=(fA.out.ob bW).aM;have fy:=fA.out.lt;have iP:=Zlq q;have dk:Upd (λ _=>False) own own w1 w1.drew:=ZUb bW da.out.fresh;clear bW bR;go_wp2_with fail;refine(ZhW ZO (HN.out.upd dk (λ _ _ h=>h)) dk.fresh (HI.out.nodes _ hn) ZO eo hb).mono ?_;rintro _ w2 ⟨rfl,cg,fe,cm⟩;have dK:=jm.out _ _ (ZbS sr (x.nodes sr)).1 ((dk.mono (T':=NodeT (t+100+10*sr)) (λ n h=>h.elim)).trans cm) fe;have eJ:=ZH dK;have dc:Hid (Upd (Zp t) own cg w w2):=ZH ((da.out.mono λ n h=>h.elim).trans (((dk.mono (T':=NodeT (t+100+10*sr)) (λ n h=>h.elim)).trans cm).mono λ n h=>h.world ZO));clear dK fe cm dk x0 x1 x2 x3 x4 x5 x6 x7 x8 x9;go_wp2
   go_ret;refine⟨turned,λ _=>rfl,?_⟩;have e:ZbL c x (Zu ⟨9,sr,ek,key,label,value,at_,bit,mask,keep,turned⟩ turned)=(⟨Zch x.nodes sr (ZbS sr (x.nodes sr)).1,x.hub,x.link⟩,(ZbS sr (x.nodes sr)).2):=by simp[ZbL,Zu,hn]
   rw[e];exact⟨rfl,cg,eJ.out,dc.out⟩
  ·
   go_enter func33,ntmps33;go_wp2_with fail;generalize (w.alloc (.cells (Zaz ⟨10,sr,ek,key,label,value,at_,bit,mask,keep,turned⟩) 36))=W at *;refine(ZaG HW.out hn).mono ?_;rintro _ w1 ⟨rfl,bS⟩;have co:Upd (λ _=>False) own own W w1:=ZUb bS HU.out.fresh;have dl:=HW.out.upd co (λ _ _ h=>h) (λ h=>h) h5;obtain⟨g,k,hp,lp,q,bY,eB,bU,de,eS⟩:=dl.node hn h5;have fJ:(0:Int)<=(sr:Int):=ZO;have km:(sr:Int)<(c.n:Int):=ZO;obtain⟨HB,mR,HN,jm,da,fA⟩:=ZH6 bY bU de eS (HU.out.trans co) (HX.out.ob bS);clear bS co dl bY bU de eS x0 x1 x2 x3 x4 x5 x6 x7 x8 x9 fy;go_wp2_with fail;refine ZSi [(0,3),(1,0),(2,3),(3,0),(4,3),(5,0),(6,3),(7,0),(8,3),(9,3)] λ bR=>?_
   repeat((first | refine ZSa ?_ | refine ZSb ?_ | (refine Zf (v:=?_) rfl (by rfl) ?_ ?_;rotate_left 1;(intro w' ci;(obtain⟨c0,c1,c2⟩:=(HB.out.ob ci.below).three);(obtain⟨x0,x1,x2,x3,x4,x5,x6,x7,x8,x9⟩:=(fA.out.ob ci.below).aM);(have ib:=(ci.below.cell (p:=⟨g,sr,none⟩) eB).trans mR.out);go_simp;with_reducible rfl)));simp only[Act.put,ZA,ZB,ZC])
   refine ZSf ?_;have bW:=(ZW w1.heap.size w1).drew;obtain⟨x0,x1,x2,x3,x4,x5,x6,x7,x8,x9⟩:=(fA.out.ob bW).aM;have fy:=fA.out.lt;have iP:=ZnO q;have dk:Upd (λ _=>False) own own w1 w1.drew:=ZUb bW da.out.fresh;clear bW bR;go_wp2_with fail;refine(ZqB (HN.out.upd dk (λ _ _ h=>h)) dk.fresh keep).mono ?_;rintro _ w2 ⟨rfl,fe,cm⟩;have dK:=jm.out _ _ (Znm (x.nodes sr) keep) ((dk.mono (T':=NodeT (t+100+10*sr)) (λ n h=>h.elim)).trans cm) fe;have eJ:=ZH dK;have dc:Hid (Upd (Zp t) own own w w2):=ZH ((da.out.mono λ n h=>h.elim).trans (((dk.mono (T':=NodeT (t+100+10*sr)) (λ n h=>h.elim)).trans cm).mono λ n h=>h.world ZO));clear dK fe cm dk x0 x1 x2 x3 x4 x5 x6 x7 x8 x9;go_wp2
   go_ret;refine⟨turned,λ _=>rfl,?_⟩;have e:ZbL c x (Zu ⟨10,sr,ek,key,label,value,at_,bit,mask,keep,turned⟩ turned)=(⟨Zch x.nodes sr (Znm (x.nodes sr) keep),x.hub,x.link⟩,0):=by simp[ZbL,Zu,hn]
   rw[e];exact⟨rfl,own,eJ.out,dc.out⟩
 ·have ny:sr=5:=(HS.out.r).resolve_left hn;subst ny;rcases nR with rfl | rfl | rfl
  ·
   go_enter func33,ntmps33;go_wp2_with fail;generalize (w.alloc (.cells (Zaz ⟨8,5,ek,key,label,value,at_,bit,mask,keep,turned⟩) 36))=W at *;refine(Za5 HW.out (r:=((5:Nat):Int)) (.inr ZO)).mono ?_;rintro _ w1 ⟨rfl,bS⟩;have co:Upd (λ _=>False) own own W w1:=ZUb bS HU.out.fresh;have dl:=HW.out.upd co (λ _ _ h=>h) (λ h=>h) h5;obtain⟨vn,hp,lp,bY,fI,eS⟩:=dl.hub;have lm:=HX.out.ob bS;obtain⟨HN,jm,da,fA⟩:=ZH4 fI eS (HU.out.trans co) lm;obtain⟨c0,c1,c2⟩:=bY.three;have cQ:=bY.lt;clear x0 x1 x2 x3 x4 x5 x6 x7 x8 x9 fy;obtain⟨x0,x1,x2,x3,x4,x5,x6,x7,x8,x9⟩:=lm.aM;have fy:=lm.lt;have iP:=Zmm hp;clear bS co dl bY fI eS lm;go_wp2_with fail;refine(ZjZ HN.out da.out.fresh).mono ?_;rintro _ w2 ⟨rfl,fe,cm⟩;have dK:=jm.out _ _ (Zde x.hub) h5 cm fe;have eJ:=ZH dK;have dc:Hid (Upd (Zp t) own own w w2):=ZH ((da.out.mono λ n h=>h.elim).trans (cm.mono λ n h=>h.world));clear dK fe cm x0 x1 x2 x3 x4 x5 x6 x7 x8 x9;go_wp2
   go_ret;refine⟨turned,λ _=>rfl,?_⟩;have e:ZbL c x (Zu ⟨8,5,ek,key,label,value,at_,bit,mask,keep,turned⟩ turned)=(⟨x.nodes,Zde x.hub,x.link⟩,0):=by simp[ZbL,Zu,hn]
   rw[e];exact⟨rfl,own,eJ.out,dc.out⟩
  ·
   go_enter func33,ntmps33;go_wp2_with fail;generalize (w.alloc (.cells (Zaz ⟨9,5,ek,key,label,value,at_,bit,mask,keep,turned⟩) 36))=W at *;refine(Za5 HW.out (r:=((5:Nat):Int)) (.inr ZO)).mono ?_;rintro _ w1 ⟨rfl,bS⟩;have co:Upd (λ _=>False) own own W w1:=ZUb bS HU.out.fresh;have dl:=HW.out.upd co (λ _ _ h=>h) (λ h=>h) h5;obtain⟨vn,hp,lp,bY,fI,eS⟩:=dl.hub;have lm:=HX.out.ob bS;obtain⟨HN,jm,da,fA⟩:=ZH4 fI eS (HU.out.trans co) lm;obtain⟨c0,c1,c2⟩:=bY.three;have cQ:=bY.lt;clear x0 x1 x2 x3 x4 x5 x6 x7 x8 x9 fy;obtain⟨x0,x1,x2,x3,x4,x5,x6,x7,x8,x9⟩:=lm.aM;have fy:=lm.lt;have iP:=Zmn hp;clear bS co dl bY fI eS lm;go_wp2_with fail;obtain⟨H,hH,o6,_⟩:=HI.out.hub;refine(ZiO ZO HN.out da.out.fresh o6 HC.out).mono ?_;rintro _ w2 ⟨rfl,cg,fe,cm⟩;have dK:=jm.out _ _ (ZbZ c x.hub).1 h5 cm fe;have eJ:=ZH dK;have dc:Hid (Upd (Zp t) own cg w w2):=ZH ((da.out.mono λ n h=>h.elim).trans (cm.mono λ n h=>h.world));clear dK fe cm x0 x1 x2 x3 x4 x5 x6 x7 x8 x9;go_wp2
   go_ret;refine⟨turned,λ _=>rfl,?_⟩;have e:ZbL c x (Zu ⟨9,5,ek,key,label,value,at_,bit,mask,keep,turned⟩ turned)=(⟨x.nodes,(ZbZ c x.hub).1,x.link⟩,(ZbZ c x.hub).2):=by simp[ZbL,Zu,hn]
   rw[e];exact⟨rfl,cg,eJ.out,dc.out⟩
  ·
   go_enter func33,ntmps33;go_wp2_with fail;generalize (w.alloc (.cells (Zaz ⟨10,5,ek,key,label,value,at_,bit,mask,keep,turned⟩) 36))=W at *;refine(Za5 HW.out (r:=((5:Nat):Int)) (.inr ZO)).mono ?_;rintro _ w1 ⟨rfl,bS⟩;have co:Upd (λ _=>False) own own W w1:=ZUb bS HU.out.fresh;have dl:=HW.out.upd co (λ _ _ h=>h) (λ h=>h) h5;obtain⟨vn,hp,lp,bY,fI,eS⟩:=dl.hub;have lm:=HX.out.ob bS;obtain⟨HN,jm,da,fA⟩:=ZH4 fI eS (HU.out.trans co) lm;obtain⟨c0,c1,c2⟩:=bY.three;have cQ:=bY.lt;clear x0 x1 x2 x3 x4 x5 x6 x7 x8 x9 fy;obtain⟨x0,x1,x2,x3,x4,x5,x6,x7,x8,x9⟩:=lm.aM;have fy:=lm.lt;have iP:=Zpc hp;clear bS co dl bY fI eS lm;go_wp2_with fail;refine(ZrS HN.out da.out.fresh keep).mono ?_;rintro _ w2 ⟨rfl,fe,cm⟩;have dK:=jm.out _ _ (Znl x.hub keep) h5 cm fe;have eJ:=ZH dK;have dc:Hid (Upd (Zp t) own own w w2):=ZH ((da.out.mono λ n h=>h.elim).trans (cm.mono λ n h=>h.world));clear dK fe cm x0 x1 x2 x3 x4 x5 x6 x7 x8 x9;go_wp2
   go_ret;refine⟨turned,λ _=>rfl,?_⟩;have e:ZbL c x (Zu ⟨10,5,ek,key,label,value,at_,bit,mask,keep,turned⟩ turned)=(⟨x.nodes,Znl x.hub keep,x.link⟩,0):=by simp[ZbL,Zu,hn]
   rw[e];exact⟨rfl,own,eJ.out,dc.out⟩
end
end
section
section
variable {own:Own}{t p:Nat}{w:World}{c:Cfg}{x:WS}
theorem Zgy(h:WorldAt own t w p c x)(hf:Fresh own w)(hc:c.n<=5){fn:Nat}(qu:fn=37∨fn=38∨fn=39){q:Nat}{o:Option Frm × Nat}(eM:Calls prog fn #[ptrV q] w (Zbl o w))
  (dL:∀ g,o.1=some g->(Zk g).length<=1000000000) (hl:x.link.length<=1000000) (ho:o.1=none->o.2≠0) :
  Calls prog 36 #[ptrV p,.func (.func fn) #[ptrV q] #[]] w λ e w'=>e = .returned (.int .i64 (Zgn x o).2)/\∃ own',WorldAt own' t w' p c (Zgn x o).1/\Upd (Zp t) own own' w w':=by
 obtain⟨HF,HW,HC,uv,HL,HO⟩:=ZH6 hf h eM dL hl ho;clear h hf eM dL hl ho;obtain⟨o,fV⟩:=o;rcases qu with rfl | rfl | rfl
 all_goals
  go_enter func36,ntmps36;go_wp2_with fail;refine HC.out.mono ?_;intro e w1 hP;unfold Zbl at hP
  cases o with
  | none =>
   obtain⟨rfl,bS⟩:=hP;have hz:((fV:Int)==0)=false:=by have:=HO.out rfl;simp at this ⊢;exact this
   have co:Upd (Zp t) own own w w1:=ZUb bS HF.out;have dl:=HW.out.upd (ZUb (T:=λ _=>False) bS HF.out) (λ _ _ h=>h) (λ h=>h) hc;obtain⟨HU,ft⟩:=ZH2 co dl;clear bS co dl;go_wp2
   go_ret;exact⟨rfl,own,ft.out,HU.out⟩
  | some g =>
   obtain⟨v,rfl,eh,bS⟩:=hP;have co:Upd (λ _=>False) own own w w1:=ZUb bS HF.out;have dl:=HW.out.upd co (λ _ _ h=>h) (λ h=>h) hc;obtain⟨vn,hp,lp,bY,kV,eS⟩:=dl.link;obtain⟨c0,c1,c2⟩:=bY.three;have ce:=bY.lt;obtain⟨a,k,rfl,fX⟩:=Bytes.ab eh;have hS:=Zj7 kV co.fresh (by unfold flsOf;rw[List.length_map];exact HL.out) ZO 5 fX (uv.out g rfl);obtain⟨HS,HU,jm⟩:=ZH3 hS co eS;clear eh bS co dl bY kV eS fX hS c0 c1;go_wp2_with fail;refine HS.out.mono ?_;rintro _ w2 ⟨rfl,cg,mM,cm⟩;have dK:=jm.out _ _ (x.link++[(5,g)]) hc cm (by unfold flsOf at mM ⊢;rw[List.map_append];exact mM);have dI:Hid (Upd (Zp t) own cg w w2):=ZH ((HU.out.mono (λ n h=>h.elim)).trans (cm.mono (λ n h=>⟨ZO,ZO⟩)));have eJ:=ZH dK;clear dK mM cm;go_wp2
   go_ret;exact⟨rfl,cg,eJ.out,dI.out⟩
end
end
end Go.Proofs.YtjkfognelhiepaaGreat
