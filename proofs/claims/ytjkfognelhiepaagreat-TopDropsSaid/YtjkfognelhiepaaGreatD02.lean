import Derived.Test.YtjkfognelhiepaaGreatC28
namespace Go.Proofs.YtjkfognelhiepaaGreat
open Go.RowKit _root_.Go.Proofs.Tryz
set_option maxRecDepth 100000
set_option maxHeartbeats 8000000
def Zs4(s:RawSt):Nat:=(Zle s.kind 12).toNat
def Zs7(n:Nat)(s:RawSt):Nat:=if (Zle s.r (n+1)).toNat=n then(if Zs4 s<8∨Zs4 s=11 then 0 else 5) else(Zle s.r (n+1)).toNat
def Zs1(n:Nat)(s:RawSt):St:=⟨Zs4 s,Zs7 n s,ZcX s.ek,Zd0 (Zej s.key s.key.size),Zg3 (ZcX s.ek) s.label,ZeG (ZcX s.ek) s.value,s.at_,s.bit,s.mask.toNat,s.keep,false⟩
theorem Zs6(s:RawSt):Zs4 s<=11:=by
 have h:=Zns s.kind (k:=12) ZO;unfold Zs4;omega
theorem Zth{c:Cfg}(hc:c.Ok)(s:RawSt):Zs7 c.n s<c.n∨Zs7 c.n s=5/\8<=Zs4 s/\Zs4 s<=10:=by
 have h:=Zns s.r (k:=c.n+1) ZO;have hk:=Zs6 s;have h1:=hc.n1;unfold Zs7;split
 ·split
  ·exact .inl ZO
  ·exact .inr ⟨rfl,ZO,ZO⟩
 ·exact .inl ZO
theorem Ztc{c:Cfg}(hc:c.Ok){s:RawSt}(hs:RawOk s):StOk c (Zs1 c.n s):=by
 refine⟨Zs6 s,?_,ZsV _ _ _ _,?_⟩
 ·rcases Zth hc s with h | h
  ·exact .inl h
  ·exact .inr h.1
 ·show s.mask.toNat<4294967296
  have:=hs.mask0;have:=hs.mask;omega
abbrev Zs3(s:St):Array Value:=#[.int .i64 s.kind,.int .i64 s.r,.int .i64 s.ek,.string s.key,.int .i64 s.label,.string s.value,.int .i64 s.at_,.int .i64 s.bit,.int .u32 s.mask,.int .i64 s.keep]
abbrev Zti(s:St):Value := .agg (Zs3 s)
theorem Blk.a6{w:World}{g:Nat}{ty:TypeId}{v0 v1 v2 v3 v4 v5 v6 v7 v8 v9:Value}(h:Blk w g ty #[v0,v1,v2,v3,v4,v5,v6,v7,v8,v9]):w.cell? ⟨g,0,none⟩=some v0/\w.cell? ⟨g,1,none⟩=some v1/\w.cell? ⟨g,2,none⟩=some v2/\w.cell? ⟨g,3,none⟩=some v3/\w.cell? ⟨g,4,none⟩=some v4/\w.cell? ⟨g,5,none⟩=some v5/\w.cell? ⟨g,6,none⟩=some v6/\w.cell? ⟨g,7,none⟩=some v7/\w.cell? ⟨g,8,none⟩=some v8/\w.cell? ⟨g,9,none⟩=some v9 :=
 ⟨h.cell 0,h.cell 1,h.cell 2,h.cell 3,h.cell 4,h.cell 5,h.cell 6,h.cell 7,h.cell 8,h.cell 9⟩
theorem Ztn(s:RawSt)(n:Nat)(h1:1<=n)(h5:n<=5)(hs:RawOk s)(w:World):
  Calls prog 31 #[.agg #[.int .i64 s.kind,.int .i64 s.r,.int .i64 s.ek,.string s.key,.int .i64 s.label,.string s.value,.int .i64 s.at_,.int .i64 s.bit,.int .u32 s.mask,.int .i64 s.keep],.int .i64 n] w (Zv (Zti (Zs1 n s)) w):=by
 have hb:=(ZBn w 36 #[.int .i64 s.kind,.int .i64 s.r,.int .i64 s.ek,.string s.key,.int .i64 s.label,.string s.value,.int .i64 s.at_,.int .i64 s.bit,.int .u32 s.mask,.int .i64 s.keep]).alloc (.cells #[.int .i64 0,.int .i64 0,.int .i64 0,.string ByteArray.empty,.int .i64 0,.string ByteArray.empty,.int .i64 0,.int .i64 0,.int .u32 0,.int .i64 0] 36);obtain⟨c0,c1,c2,c3,c4,c5,c6,c7,c8,c9⟩:=hb.a6;have hl:=hb.lt;clear hb;have di:(wrap64 (s.kind.tmod 12+12)).tmod 12=(Zs4 s:Int):=ZsW s.kind ZO ZO;obtain⟨R,hR⟩:∃ R,R=(Zle s.r (n+1)).toNat:=⟨_,rfl⟩;have dB:(wrap64 (wrap64 (s.r.tmod ((n:Int)+1)+(n:Int))+1)).tmod ((n:Int)+1)=(R:Int):=by
  rw[hR,←ZsW s.r ZO ZO];have b1:=Int.tmod_lt_of_pos s.r (show 0<(n:Int)+1 by omega);have b2 : -((n:Int)+1)<s.r.tmod ((n:Int)+1):=by
   have:=Int.tmod_lt_of_pos (-s.r) (show 0<(n:Int)+1 by omega);rw[Int.neg_tmod] at this;omega
  generalize s.r.tmod ((n:Int)+1)=z at *;have e:wrap64 (wrap64 (z+(n:Int))+1)=wrap64 (z+((n:Int)+1)):=by unfold wrap64;omega
  rw[e]
 have cI:=Zs6 s;have dh:Zs7 n s=if R=n then(if Zs4 s<8∨Zs4 s=11 then 0 else 5) else R:=by rw[hR];rfl
 have bd:=ZH dh;obtain⟨K,hK⟩:∃ K,K=Zs4 s:=⟨_,rfl⟩;rw[←hK] at di cI bd;obtain⟨cn,HKW,HRW⟩:=ZH3 hK di dB;have hRn:R<=n:=by
  have:=Zns s.r (k:=(n:Int)+1) ZO;omega
 clear hK dh hR;have aX:=ZH (ZsZ s.ek s.key s.label s.value · hs.key hs.value);go_enter func31,ntmps31;by_cases hr:R=n
 ·by_cases h8:K<8
  ·obtain⟨bj,cy⟩:=ZH2 hr h8;go_wp2_with fail;have aM:=(ZBn w 36 #[.int .i64 (K:Int),.int .i64 0,.int .i64 s.ek,.string s.key,.int .i64 s.label,.string s.value,.int .i64 s.at_,.int .i64 s.bit,.int .u32 s.mask,.int .i64 s.keep]).alloc (.cells #[.int .i64 0,.int .i64 0,.int .i64 0,.string ⟨#[]⟩,.int .i64 0,.string ⟨#[]⟩,.int .i64 0,.int .i64 0,.int .u32 0,.int .i64 0] 36);have am:=ZBn (w.alloc (.cells #[.int .i64 (K:Int),.int .i64 0,.int .i64 s.ek,.string s.key,.int .i64 s.label,.string s.value,.int .i64 s.at_,.int .i64 s.bit,.int .u32 s.mask,.int .i64 s.keep] 36)) 36 #[.int .i64 0,.int .i64 0,.int .i64 0,.string ⟨#[]⟩,.int .i64 0,.string ⟨#[]⟩,.int .i64 0,.int .i64 0,.int .u32 0,.int .i64 0];rw[World.size_alloc] at am;have aQ:=((ZKr w).alloc (.cells #[.int .i64 (K:Int),.int .i64 0,.int .i64 s.ek,.string s.key,.int .i64 s.label,.string s.value,.int .i64 s.at_,.int .i64 s.bit,.int .u32 s.mask,.int .i64 s.keep] 36)).alloc (.cells #[.int .i64 0,.int .i64 0,.int .i64 0,.string ⟨#[]⟩,.int .i64 0,.string ⟨#[]⟩,.int .i64 0,.int .i64 0,.int .u32 0,.int .i64 0] 36);refine(aX.out _).mono ?_;generalize (w.alloc (.cells #[.int .i64 (K:Int),.int .i64 0,.int .i64 s.ek,.string s.key,.int .i64 s.label,.string s.value,.int .i64 s.at_,.int .i64 s.bit,.int .u32 s.mask,.int .i64 s.keep] 36)).alloc (.cells #[.int .i64 0,.int .i64 0,.int .i64 0,.string ⟨#[]⟩,.int .i64 0,.string ⟨#[]⟩,.int .i64 0,.int .i64 0,.int .u32 0,.int .i64 0] 36)=W at *;rintro _ w1 ⟨rfl,hb⟩;obtain⟨HB,HK⟩:=ZH2 (am.ob hb) (aQ.step hb);have hc:=aM.ob hb;clear aM am aQ hb;obtain⟨c0,c1,c2,c3,c4,c5,c6,c7,c8,c9⟩:=hc.a6;have hl:=hc.lt;have hf:=λ i=>hc.frozen i
   obtain⟨d0,d1,d2,d3,d4,d5,d6,d7,d8,d9⟩:=HB.out.a6;have be:=HB.out.lt;have cK:=λ i=>HB.out.frozen i
   clear hc;go_wp2_with fail;have bn:Zs7 n s=0:=by rw[bd.out];rw[if_pos bj.out,if_pos (.inl cy.out)]
   have aJ:=Zaw (vs:=Zs3 ⟨K,0,ZcX s.ek,Zd0 (Zej s.key s.key.size),Zg3 (ZcX s.ek) s.label,ZeG (ZcX s.ek) s.value,s.at_,s.bit,s.mask.toNat,s.keep,false⟩) ((Zaj (show w.heap.size+1≠w.heap.size by omega) [.int .i64 (ZcX s.ek:Int),.string (Zd0 (Zej s.key s.key.size)),.int .i64 (Zg3 (ZcX s.ek) s.label:Int),.string (ZeG (ZcX s.ek) s.value)] 2 w1).trans HB.out) rfl;have bF:=ZaB (ZaB HK.out (g:=w.heap.size) (ZL _) 2 [.int .i64 (ZcX s.ek:Int),.string (Zd0 (Zej s.key s.key.size)),.int .i64 (Zg3 (ZcX s.ek) s.label:Int),.string (ZeG (ZcX s.ek) s.value)]) (g:=w.heap.size+1) ZO 0 (Zs3 ⟨K,0,ZcX s.ek,Zd0 (Zej s.key s.key.size),Zg3 (ZcX s.ek) s.label,ZeG (ZcX s.ek) s.value,s.at_,s.bit,s.mask.toNat,s.keep,false⟩).toList;have bG:s.mask=((s.mask.toNat:Nat):Int):=by have:=hs.mask0;omega
   have e:Zs1 n s=⟨K,0,ZcX s.ek,Zd0 (Zej s.key s.key.size),Zg3 (ZcX s.ek) s.label,ZeG (ZcX s.ek) s.value,s.at_,s.bit,s.mask.toNat,s.keep,false⟩:=by unfold Zs1;rw[bn,←cn.out]
   rw[e];rw[bG];refine bodyPost_ret (Zac rfl rfl (run_loadVar_row _ _ _ _ _ _ _ aJ underlying36 rfl ZK)) rfl ?_;exact⟨rfl,bF.below⟩
  ·by_cases co:K=11
   focus
    obtain⟨bj,bh⟩:=ZH2 hr co;have cJ:((K:Int)==11)=true:=by rw[co];rfl
    clear co;go_wp2_with fail;have aM:=(ZBn w 36 #[.int .i64 (K:Int),.int .i64 0,.int .i64 s.ek,.string s.key,.int .i64 s.label,.string s.value,.int .i64 s.at_,.int .i64 s.bit,.int .u32 s.mask,.int .i64 s.keep]).alloc (.cells #[.int .i64 0,.int .i64 0,.int .i64 0,.string ⟨#[]⟩,.int .i64 0,.string ⟨#[]⟩,.int .i64 0,.int .i64 0,.int .u32 0,.int .i64 0] 36);have am:=ZBn (w.alloc (.cells #[.int .i64 (K:Int),.int .i64 0,.int .i64 s.ek,.string s.key,.int .i64 s.label,.string s.value,.int .i64 s.at_,.int .i64 s.bit,.int .u32 s.mask,.int .i64 s.keep] 36)) 36 #[.int .i64 0,.int .i64 0,.int .i64 0,.string ⟨#[]⟩,.int .i64 0,.string ⟨#[]⟩,.int .i64 0,.int .i64 0,.int .u32 0,.int .i64 0];rw[World.size_alloc] at am;have aQ:=((ZKr w).alloc (.cells #[.int .i64 (K:Int),.int .i64 0,.int .i64 s.ek,.string s.key,.int .i64 s.label,.string s.value,.int .i64 s.at_,.int .i64 s.bit,.int .u32 s.mask,.int .i64 s.keep] 36)).alloc (.cells #[.int .i64 0,.int .i64 0,.int .i64 0,.string ⟨#[]⟩,.int .i64 0,.string ⟨#[]⟩,.int .i64 0,.int .i64 0,.int .u32 0,.int .i64 0] 36);refine(aX.out _).mono ?_;generalize (w.alloc (.cells #[.int .i64 (K:Int),.int .i64 0,.int .i64 s.ek,.string s.key,.int .i64 s.label,.string s.value,.int .i64 s.at_,.int .i64 s.bit,.int .u32 s.mask,.int .i64 s.keep] 36)).alloc (.cells #[.int .i64 0,.int .i64 0,.int .i64 0,.string ⟨#[]⟩,.int .i64 0,.string ⟨#[]⟩,.int .i64 0,.int .i64 0,.int .u32 0,.int .i64 0] 36)=W at *;rintro _ w1 ⟨rfl,hb⟩;obtain⟨HB,HK⟩:=ZH2 (am.ob hb) (aQ.step hb);have hc:=aM.ob hb;clear aM am aQ hb;obtain⟨c0,c1,c2,c3,c4,c5,c6,c7,c8,c9⟩:=hc.a6;have hl:=hc.lt;have hf:=λ i=>hc.frozen i
    obtain⟨d0,d1,d2,d3,d4,d5,d6,d7,d8,d9⟩:=HB.out.a6;have be:=HB.out.lt;have cK:=λ i=>HB.out.frozen i
    clear hc;go_wp2_with fail;have bn:Zs7 n s=0:=by rw[bd.out];rw[if_pos bj.out,if_pos (.inr bh.out)]
    have aJ:=Zaw (vs:=Zs3 ⟨K,0,ZcX s.ek,Zd0 (Zej s.key s.key.size),Zg3 (ZcX s.ek) s.label,ZeG (ZcX s.ek) s.value,s.at_,s.bit,s.mask.toNat,s.keep,false⟩) ((Zaj (show w.heap.size+1≠w.heap.size by omega) [.int .i64 (ZcX s.ek:Int),.string (Zd0 (Zej s.key s.key.size)),.int .i64 (Zg3 (ZcX s.ek) s.label:Int),.string (ZeG (ZcX s.ek) s.value)] 2 w1).trans HB.out) rfl;have bF:=ZaB (ZaB HK.out (g:=w.heap.size) (ZL _) 2 [.int .i64 (ZcX s.ek:Int),.string (Zd0 (Zej s.key s.key.size)),.int .i64 (Zg3 (ZcX s.ek) s.label:Int),.string (ZeG (ZcX s.ek) s.value)]) (g:=w.heap.size+1) ZO 0 (Zs3 ⟨K,0,ZcX s.ek,Zd0 (Zej s.key s.key.size),Zg3 (ZcX s.ek) s.label,ZeG (ZcX s.ek) s.value,s.at_,s.bit,s.mask.toNat,s.keep,false⟩).toList;have bG:s.mask=((s.mask.toNat:Nat):Int):=by have:=hs.mask0;omega
    have e:Zs1 n s=⟨K,0,ZcX s.ek,Zd0 (Zej s.key s.key.size),Zg3 (ZcX s.ek) s.label,ZeG (ZcX s.ek) s.value,s.at_,s.bit,s.mask.toNat,s.keep,false⟩:=by unfold Zs1;rw[bn,←cn.out]
   rotate_left
   focus
    obtain⟨bj,bh,cy⟩:=ZH3 hr co h8;have cJ:((K:Int)==11)=false:=ZP;go_wp2_with fail;have aM:=(ZBn w 36 #[.int .i64 (K:Int),.int .i64 5,.int .i64 s.ek,.string s.key,.int .i64 s.label,.string s.value,.int .i64 s.at_,.int .i64 s.bit,.int .u32 s.mask,.int .i64 s.keep]).alloc (.cells #[.int .i64 0,.int .i64 0,.int .i64 0,.string ⟨#[]⟩,.int .i64 0,.string ⟨#[]⟩,.int .i64 0,.int .i64 0,.int .u32 0,.int .i64 0] 36);have am:=ZBn (w.alloc (.cells #[.int .i64 (K:Int),.int .i64 5,.int .i64 s.ek,.string s.key,.int .i64 s.label,.string s.value,.int .i64 s.at_,.int .i64 s.bit,.int .u32 s.mask,.int .i64 s.keep] 36)) 36 #[.int .i64 0,.int .i64 0,.int .i64 0,.string ⟨#[]⟩,.int .i64 0,.string ⟨#[]⟩,.int .i64 0,.int .i64 0,.int .u32 0,.int .i64 0];rw[World.size_alloc] at am;have aQ:=((ZKr w).alloc (.cells #[.int .i64 (K:Int),.int .i64 5,.int .i64 s.ek,.string s.key,.int .i64 s.label,.string s.value,.int .i64 s.at_,.int .i64 s.bit,.int .u32 s.mask,.int .i64 s.keep] 36)).alloc (.cells #[.int .i64 0,.int .i64 0,.int .i64 0,.string ⟨#[]⟩,.int .i64 0,.string ⟨#[]⟩,.int .i64 0,.int .i64 0,.int .u32 0,.int .i64 0] 36);refine(aX.out _).mono ?_;generalize (w.alloc (.cells #[.int .i64 (K:Int),.int .i64 5,.int .i64 s.ek,.string s.key,.int .i64 s.label,.string s.value,.int .i64 s.at_,.int .i64 s.bit,.int .u32 s.mask,.int .i64 s.keep] 36)).alloc (.cells #[.int .i64 0,.int .i64 0,.int .i64 0,.string ⟨#[]⟩,.int .i64 0,.string ⟨#[]⟩,.int .i64 0,.int .i64 0,.int .u32 0,.int .i64 0] 36)=W at *;rintro _ w1 ⟨rfl,hb⟩;obtain⟨HB,HK⟩:=ZH2 (am.ob hb) (aQ.step hb);have hc:=aM.ob hb;clear aM am aQ hb;obtain⟨c0,c1,c2,c3,c4,c5,c6,c7,c8,c9⟩:=hc.a6;have hl:=hc.lt;have hf:=λ i=>hc.frozen i
    obtain⟨d0,d1,d2,d3,d4,d5,d6,d7,d8,d9⟩:=HB.out.a6;have be:=HB.out.lt;have cK:=λ i=>HB.out.frozen i
    clear hc;go_wp2_with fail;have bn:Zs7 n s=5:=by rw[bd.out];rw[if_pos bj.out,if_neg (λ h=>h.elim cy.out bh.out)]
    have aJ:=Zaw (vs:=Zs3 ⟨K,5,ZcX s.ek,Zd0 (Zej s.key s.key.size),Zg3 (ZcX s.ek) s.label,ZeG (ZcX s.ek) s.value,s.at_,s.bit,s.mask.toNat,s.keep,false⟩) ((Zaj (show w.heap.size+1≠w.heap.size by omega) [.int .i64 (ZcX s.ek:Int),.string (Zd0 (Zej s.key s.key.size)),.int .i64 (Zg3 (ZcX s.ek) s.label:Int),.string (ZeG (ZcX s.ek) s.value)] 2 w1).trans HB.out) rfl;have bF:=ZaB (ZaB HK.out (g:=w.heap.size) (ZL _) 2 [.int .i64 (ZcX s.ek:Int),.string (Zd0 (Zej s.key s.key.size)),.int .i64 (Zg3 (ZcX s.ek) s.label:Int),.string (ZeG (ZcX s.ek) s.value)]) (g:=w.heap.size+1) ZO 0 (Zs3 ⟨K,5,ZcX s.ek,Zd0 (Zej s.key s.key.size),Zg3 (ZcX s.ek) s.label,ZeG (ZcX s.ek) s.value,s.at_,s.bit,s.mask.toNat,s.keep,false⟩).toList;have bG:s.mask=((s.mask.toNat:Nat):Int):=by have:=hs.mask0;omega
    have e:Zs1 n s=⟨K,5,ZcX s.ek,Zd0 (Zej s.key s.key.size),Zg3 (ZcX s.ek) s.label,ZeG (ZcX s.ek) s.value,s.at_,s.bit,s.mask.toNat,s.keep,false⟩:=by unfold Zs1;rw[bn,←cn.out]
   rotate_left
   all_goals
    rw[e];rw[bG];refine bodyPost_ret (Zac rfl rfl (run_loadVar_row _ _ _ _ _ _ _ aJ underlying36 rfl ZK)) rfl ?_;exact⟨rfl,bF.below⟩
 ·have bj:=ZH hr;have hbr:((R:Int)==(n:Int))=false:=ZP;go_wp2_with fail;have aM:=(ZBn w 36 #[.int .i64 (K:Int),.int .i64 (R:Int),.int .i64 s.ek,.string s.key,.int .i64 s.label,.string s.value,.int .i64 s.at_,.int .i64 s.bit,.int .u32 s.mask,.int .i64 s.keep]).alloc (.cells #[.int .i64 0,.int .i64 0,.int .i64 0,.string ⟨#[]⟩,.int .i64 0,.string ⟨#[]⟩,.int .i64 0,.int .i64 0,.int .u32 0,.int .i64 0] 36);have am:=ZBn (w.alloc (.cells #[.int .i64 (K:Int),.int .i64 (R:Int),.int .i64 s.ek,.string s.key,.int .i64 s.label,.string s.value,.int .i64 s.at_,.int .i64 s.bit,.int .u32 s.mask,.int .i64 s.keep] 36)) 36 #[.int .i64 0,.int .i64 0,.int .i64 0,.string ⟨#[]⟩,.int .i64 0,.string ⟨#[]⟩,.int .i64 0,.int .i64 0,.int .u32 0,.int .i64 0];rw[World.size_alloc] at am;have aQ:=((ZKr w).alloc (.cells #[.int .i64 (K:Int),.int .i64 (R:Int),.int .i64 s.ek,.string s.key,.int .i64 s.label,.string s.value,.int .i64 s.at_,.int .i64 s.bit,.int .u32 s.mask,.int .i64 s.keep] 36)).alloc (.cells #[.int .i64 0,.int .i64 0,.int .i64 0,.string ⟨#[]⟩,.int .i64 0,.string ⟨#[]⟩,.int .i64 0,.int .i64 0,.int .u32 0,.int .i64 0] 36);refine(aX.out _).mono ?_;generalize (w.alloc (.cells #[.int .i64 (K:Int),.int .i64 (R:Int),.int .i64 s.ek,.string s.key,.int .i64 s.label,.string s.value,.int .i64 s.at_,.int .i64 s.bit,.int .u32 s.mask,.int .i64 s.keep] 36)).alloc (.cells #[.int .i64 0,.int .i64 0,.int .i64 0,.string ⟨#[]⟩,.int .i64 0,.string ⟨#[]⟩,.int .i64 0,.int .i64 0,.int .u32 0,.int .i64 0] 36)=W at *;rintro _ w1 ⟨rfl,hb⟩;obtain⟨HB,HK⟩:=ZH2 (am.ob hb) (aQ.step hb);have hc:=aM.ob hb;clear aM am aQ hb;obtain⟨c0,c1,c2,c3,c4,c5,c6,c7,c8,c9⟩:=hc.a6;have hl:=hc.lt;have hf:=λ i=>hc.frozen i
  obtain⟨d0,d1,d2,d3,d4,d5,d6,d7,d8,d9⟩:=HB.out.a6;have be:=HB.out.lt;have cK:=λ i=>HB.out.frozen i
  clear hc;go_wp2_with fail;have bn:Zs7 n s=R:=by rw[bd.out];rw[if_neg bj.out]
  have aJ:=Zaw (vs:=Zs3 ⟨K,R,ZcX s.ek,Zd0 (Zej s.key s.key.size),Zg3 (ZcX s.ek) s.label,ZeG (ZcX s.ek) s.value,s.at_,s.bit,s.mask.toNat,s.keep,false⟩) ((Zaj (show w.heap.size+1≠w.heap.size by omega) [.int .i64 (ZcX s.ek:Int),.string (Zd0 (Zej s.key s.key.size)),.int .i64 (Zg3 (ZcX s.ek) s.label:Int),.string (ZeG (ZcX s.ek) s.value)] 2 w1).trans HB.out) rfl;have bF:=ZaB (ZaB HK.out (g:=w.heap.size) (ZL _) 2 [.int .i64 (ZcX s.ek:Int),.string (Zd0 (Zej s.key s.key.size)),.int .i64 (Zg3 (ZcX s.ek) s.label:Int),.string (ZeG (ZcX s.ek) s.value)]) (g:=w.heap.size+1) ZO 0 (Zs3 ⟨K,R,ZcX s.ek,Zd0 (Zej s.key s.key.size),Zg3 (ZcX s.ek) s.label,ZeG (ZcX s.ek) s.value,s.at_,s.bit,s.mask.toNat,s.keep,false⟩).toList;have bG:s.mask=((s.mask.toNat:Nat):Int):=by have:=hs.mask0;omega
  have e:Zs1 n s=⟨K,R,ZcX s.ek,Zd0 (Zej s.key s.key.size),Zg3 (ZcX s.ek) s.label,ZeG (ZcX s.ek) s.value,s.at_,s.bit,s.mask.toNat,s.keep,false⟩:=by unfold Zs1;rw[bn,←cn.out]
  rw[e];rw[bG];refine bodyPost_ret (Zac rfl rfl (run_loadVar_row _ _ _ _ _ _ _ aJ underlying36 rfl ZK)) rfl ?_;exact⟨rfl,bF.below⟩
def stL(s:St):List Value:=(Zs3 s).toList
def Zs5(n:Nat)(ss:List RawSt):List St:=(ss.take 60).map (Zs1 n)
theorem Ztl:(prog.info? 36).map (λ i=>(i.zero,i.size,i.bytes))=some (some (.agg #[.int .i64 0,.int .i64 0,.int .i64 0,.string ByteArray.empty,.int .i64 0,.string ByteArray.empty,.int .i64 0,.int .i64 0,.int .u32 0,.int .i64 0]),10,96):=ZK
theorem Zta(w:World)(e:TypeId)(sz:Nat):(w.alloc (.cells #[] e)).ownsRow w.heap.size e sz (.slice (some ⟨w.heap.size,0,none⟩) 0 0) 0 [] :=
 ⟨ZM,.inr ⟨w.heap.size,0,#[],rfl,ZL _,heap_alloc_new w _,ZL _,by simp[maxLen],ZM,ZM⟩⟩
theorem Ztg{w:World}{a:Option Addr}{n cap N:Nat}{ss:List RawSt}(hr:Reads w w.heap.size 10 a n (ss.flatMap Zdi))(hn:n=ss.length)(bc:∀ s∈ss,RawOk s)(h1:1<=N)(h5:N<=5)(bW:n<9223372036854775807):
  Calls prog 13 #[.slice a n cap,.int .i64 N] w λ e w'=>∃ v,e = .returned v/\w'.ownsRow w.heap.size 36 10 v (Zs5 N ss).length ((Zs5 N ss).flatMap stL)/\Below w.heap.size w w':=by
 obtain⟨i0,hi,dR,cX,dS⟩:=info_parts Ztl;obtain⟨HR,HN,ag⟩:=ZH3 hr hn bc;have HO:Hid ((w.alloc (.cells #[] 36)).ownsRow w.heap.size 36 10 (.slice (some ⟨w.heap.size,0,none⟩) 0 0) 0 (((ss.take 0).map (Zs1 N)).flatMap stL)):=ZH (Zta w 36 10);have HK:=ZH ((ZKr w).alloc (.cells #[] 36));have hm:min n 60<=n:=Nat.min_le_left _ _;clear hr hn bc;go_enter func13,ntmps13;go_wp2_with fail;go_loopw [5,6] (λ v i wr=>∃ q:Nat,q<=n/\q<=60/\i = .int .i64 q/\Hid (wr.ownsRow w.heap.size 36 10 v q (((ss.take q).map (Zs1 N)).flatMap stL))/\Hid (Kept w.heap.size w wr)) (λ _ i _=>n-(intOf i).toNat)
 case atStart=>exact⟨0,ZO,ZO,rfl,HO,HK⟩
 case round =>
  clear HO HK;obtain⟨q,hq,hq6,rfl,HO,HK⟩:=hrel;obtain⟨av,cv,rfl⟩:=Zs HO.out;by_cases cw:q<n
  ·by_cases hq60:q<60
   ·obtain⟨s,he⟩:∃ s,ss[q]? = some s:=⟨_,ZX (by rw[←HN.out];exact cw)⟩;have ba:=ZH (ag.out s (ZY he));obtain⟨bk,off,rfl,bq,hc⟩:=ZsX (HR.out.below HK.out.below) HN.out he;have c0:=hc 0 _ rfl;have c1:=hc 1 _ rfl;have c2:=hc 2 _ rfl;have c3:=hc 3 _ rfl;have c4:=hc 4 _ rfl;have c5:=hc 5 _ rfl;have c6:=hc 6 _ rfl;have c7:=hc 7 _ rfl;have c8:=hc 8 _ rfl;have c9:=hc 9 _ rfl;simp only[Nat.add_zero] at c0;have dr:((ss.take (q+1)).map (Zs1 N)).flatMap stL=((ss.take q).map (Zs1 N)).flatMap stL++stL (Zs1 N s):=by
     rw[List.take_add_one,he];simp
    have dz:=ZH dr;clear he dr hc;go_wp2_with fail;refine(Ztn s N h1 h5 ba.out wr).mono ?_;rintro _ w1 ⟨rfl,am⟩;have dl:=HK.out.step am;have dq:=Ze HO.out am;have df:=ZH (dq.alloc (.cells (Zs3 (Zs1 N s)) 36));have cO:=dl.alloc (.cells (Zs3 (Zs1 N s)) 36);have dy:Hid (Reads (w1.alloc (.cells (Zs3 (Zs1 N s)) 36)) _ 10 (some ⟨w1.heap.size,0,none⟩) 1 (stL (Zs1 N s))):=ZH (Reads.ao (ZBn w1 36 _) rfl);have dM:=cO.le;have bi:=ZH cO
    have aB:Hid (∀ u∈stL (Zs1 N s),u.oneCell'=true):=ZH (λ u hu=>by
     simp[stL] at hu
     rcases hu with rfl | rfl | rfl | rfl | rfl | rfl | rfl | rfl | rfl | rfl <;> rfl)
    clear am dl dq cO c0 c1 c2 c3 c4 c5 c6 c7 c8 c9
    go_wp2_with (first
     |(at_builtin
       refine Zc _ rfl (.tmp 18) (.tmp 25) _ rfl w.heap.size 36 i0 _ 10 96 underlying24 hi dR cX dS rfl ZO (.slice av q cv) q (((ss.take q).map (Zs1 N)).flatMap stL) rfl df.out _ (some ⟨w1.heap.size,0,none⟩) 1 1 (stL (Zs1 N s)) rfl dy.out aB.out ZF ZO dM ?_;intro v7 w7 aU cM _;rw[←dz.out] at aU;have dw:Hid (Kept w.heap.size w w7):=ZH (⟨bi.out.below.grown cM bi.out.le (λ g hg=>(Zb df.out hg).1),ZT bi.out.le cM.size⟩);have dx:=ZH aU
       clear aU cM ))
    go_roundw
    case rel=>exact⟨q+1,ZO,ZO,ZN,dx,dw⟩
    case measure=>simp[intOf];omega
   ·obtain rfl:q=60:=ZO;go_wp2
    go_ret;refine⟨_,rfl,?_,HK.out.below⟩;have e:(Zs5 N ss).length=60:=by unfold Zs5;rw[List.length_map,ZV];have:=HN.out;omega
    rw[e];exact HO.out
  ·obtain rfl:q=n:=ZO;go_wp2
   go_ret;refine⟨_,rfl,?_,HK.out.below⟩;have e:(Zs5 N ss).length=q:=by unfold Zs5;rw[List.length_map,ZV];have:=HN.out;omega
   have e2:ss.take q=ss.take 60:=by rw[ZU (by have:=HN.out;omega),ZU (by have:=HN.out;omega)]
   rw[e];rw[show Zs5 N ss=(ss.take q).map (Zs1 N) from by rw[e2];rfl];exact HO.out
section
def hubLens(s:HubSt):Clk:=if s.up=true then lenOf s.sh else ZCz
section
variable {c:Cfg}{B B':Bd}{m b r k:Nat}{x y:WS}{s:St}{a:PN}
theorem WInv.ak(h:WInv c B m b x)(hc:c.Ok)(hu:x.hub.s.up=true)(i:Nat):(hubLens x.hub.s).get i=B.hub i:=by
 obtain⟨H,hH,hi,du⟩:=h.hub;obtain⟨g1,g2,g3⟩:=hi.up hu;have hl:=hi.inv.len;rw[g3] at hl;have h5:=hc.n5;have hh:=hi.hub i;rw[g3] at hh;unfold hubLens;rw[if_pos hu,Zo9 (by simp only at hl;omega),du hu];exact hh.symm
theorem WInv.a9(h:WInv c B m b x)(hr:r<c.n)(hk:k≠r):(Zbz (x.nodes r).s).clk.get k<=B.hub k:=by
 cases hu:(x.nodes r).s.up with
 | false=>rw[Zi9 hu];simp only;rw[ZbW];exact Nat.zero_le _
 | true =>
  rw[ZlP hu];simp only;rw[(h.nodes r hr).clk hu];exact((h.nodes r hr).log hu).bo hk
theorem Zs9(hk:s.kind≠4/\s.kind≠5/\s.kind≠7):(Zab c x s).1.hub.rs=x.hub.rs:=by
 unfold Zab;split
 ·unfold ZcH;split
  ·rfl
  ·split
   ·rfl
   ·rw[if_pos ZO]
 ·split
  ·unfold ZbL;split
   ·split
    ·rfl
    ·split <;> rfl
   ·split
    ·split
     ·rfl
     ·split
      ·simp only[ZbZ];split <;> rfl
      ·rfl
    ·rfl
  ·split
   ·rfl
   ·split
    ·rfl
    ·split
     ·rfl
     ·unfold Zgn;split <;> rfl
theorem WInv.af(h:WInv c B m b x)(bA:x.hub.rs=[])(i:Nat):B.hub i=0:=by
 obtain⟨H,hH,hi,du⟩:=h.hub;have h0:=hi.hub i;have h1:hubLen (repl c x.hub.rs).1 i=0:=by
  rw[bA];unfold hubLen lensOf repl ZbH;simp only[List.foldl_nil,initSt,List.map_replicate,List.getD_eq_getElem?_getD,List.getElem?_replicate];split <;> rfl
 have:=hH i;simp only at h0;omega
theorem WInv.aa(h:WInv c B m b x)(hc:c.Ok)(bA:x.hub.rs=[])(hr:r<c.n):
  (∀ k,k≠r->(Zbz (x.nodes r).s).clk.get k=0)/\(Zbz (x.nodes r).s).held=[]/\(Zbz (x.nodes r).s).sent=0/\(Zbz (x.nodes r).s).log.length=(Zbz (x.nodes r).s).clk.get r:=by
 have h0:=h.af bA;refine⟨λ k hk=>by have:=h.a9 hr hk;rw[h0] at this;omega,?_⟩
 cases hu:(x.nodes r).s.up with
 | false=>rw[Zi9 hu];exact⟨rfl,rfl,(ZbW r).symm⟩
 | true =>
  have hl:=(h.nodes r hr).log hu;have h5:=hc.n5;rw[ZlP hu];simp only;refine⟨?_,by have:=hl.sentH;rw[h0] at this;omega,?_⟩
  ·rw[List.eq_nil_iff_forall_not_mem];intro e he;have h1:=((h.nodes r hr).up hu).held e he;have h2:=h1.hub;have h3:=h1.good.ok.n1;rw[h0] at h2;omega
  ·rw[(h.nodes r hr).clk hu,ZmX hl.r5];have hz:∀ k,k≠r->cnt k (x.nodes r).s.log=0:=λ k hk=>by have:=hl.bo hk;rw[h0] at this;omega
   have hr5:r<5:=ZO;have z0:=hz 0;have z1:=hz 1;have z2:=hz 2;have z3:=hz 3;have z4:=hz 4;show cnt 0 _+cnt 1 _+cnt 2 _+cnt 3 _+cnt 4 _=_
   rcases(by omega:r=0∨r=1∨r=2∨r=3∨r=4) with rfl | rfl | rfl | rfl | rfl <;> omega
theorem WInv.a8(h:WInv c B m b x)(hc:c.Ok)(bA:x.hub.rs=[])(k:Nat):(hubLens x.hub.s).get k=0:=by
 cases hh:x.hub.s.up with
 | false=>unfold hubLens;rw[if_neg (by simp[hh]),ZbW]
 | true=>rw[h.ak hc hh,h.af bA]
end
end
section
structure Loc(own:Own)(w:World)(b:Nat)(c:Cfg)(k:Nat)(v:Value)(ss:List St):Prop where
 blk:Blk w b 23 (Zal c)
 mine:own b=0
 row:∃ B,w.ownsRow B 36 10 v ss.length (ss.flatMap stL)
 loose:∀ g,v.ownBlock=some g->own g=k
section
variable {own own':Own}{t p q b k:Nat}{w0 wr w':World}{c:Cfg}{B:Bd}{x:WS}{v:Value}{ss:List St}{s:St}{T:Nat->Prop}
theorem Loc.upd(h:Loc own wr b c k v ss)(hu:Upd T own own' wr w')(h0:¬ T 0)(hk:¬ T k):Loc own' w' b c k v ss:=by
 obtain⟨B,hr⟩:=h.row;refine⟨h.blk.upd hu (by rw[h.mine];exact h0),(hu.old _ h.blk.lt).trans h.mine,⟨B,Zh hr λ g hg hl=>hu.same g hl (by rw[h.loose g hg];exact hk)⟩,λ g hg=>(hu.old g (Zb hr hg).2).trans (h.loose g hg)⟩
theorem Loc.below(h:Loc own wr b c k v ss)(hf:Fresh own wr)(hb:Below wr.heap.size wr w'):Loc own w' b c k v ss:=h.upd (ZUb (T:=λ _=>False) hb hf) (λ h=>h) (λ h=>h)
theorem Ztj{α : Type}{L : α -> List Value}(hL:∀ x,(L x).length=10):∀ (ss:List α) (q:Nat) (s : α),ss[q]? = some s->∀ j u,(L s)[j]? = some u->(ss.flatMap L)[q*10+j]? = some u:=by
 intro ss
 induction ss with
 | nil=>intro q s h;simp at h
 | cons x ss ih =>
  intro q s h j u hj;have hl:=hL x;rw[List.flatMap_cons]
  cases q with
  | zero =>
   simp at h;subst h;have:j<10:=by rw[←hl];exact(ZZ.1 hj).1
   rw[List.getElem?_append_left (by rw[hl];omega),Nat.zero_mul,Nat.zero_add];exact hj
  | succ q =>
   rw[List.getElem?_append_right (by rw[hl];omega),hl,show(q+1)*10+j-10=q*10+j by omega];exact ih q s (by simpa using h) j u hj
theorem Loc.step(h:Loc own wr b c k v ss)(hq:ss[q]? = some s):∃ g cap,v = .slice (some ⟨g,0,none⟩) ss.length cap/\g<wr.heap.size/\∀ j u,(stL s)[j]? = some u->wr.cell? ⟨g,q*10+j,none⟩=some u:=by
 have dN:q<ss.length:=(ZZ.1 hq).1;obtain⟨B,hr⟩:=h.row;obtain⟨a,cap,rfl⟩:=Zs hr;obtain⟨g,rfl,b5,hc⟩:=Zby hr ZO;refine⟨g,cap,rfl,b5,λ j u hj=>?_⟩;have h1:=Ztj (L:=stL) (λ _=>rfl) ss q s hq j u hj;exact(hc _ (ZZ.1 h1).1).trans h1
def withKind(s:St)(k:Nat):St:=⟨k,s.r,s.ek,s.key,s.label,s.value,s.at_,s.bit,s.mask,s.keep,s.turned⟩
theorem Ztd(k:Nat):∀ (ss:List St) (q:Nat) (s:St),ss[q]? = some s->(ss.flatMap stL).set (q*10) (.int .i64 k)=(ss.set q (withKind s k)).flatMap stL:=by
 intro ss
 induction ss with
 | nil=>intro q s h;simp at h
 | cons x ss ih =>
  intro q s h;have hl:(stL x).length=10:=rfl;rw[List.flatMap_cons]
  cases q with
  | zero =>
   simp at h;subst h;rfl
  | succ q =>
   rw[List.set_append_right (h:=by rw[hl];omega),hl,show(q+1)*10-10=q*10 by omega,ih q s (by simpa using h)];rfl
theorem Loc.frozen(h:Loc own wr b c k v ss){g:Nat}(hg:v.ownBlock=some g)(j:Nat):wr.frozen? ⟨g,j,none⟩=false:=by
 obtain⟨B,hr⟩:=h.row;rcases hr.2 with ⟨h',_⟩|⟨g',cap',cur,h',_,dE,_⟩
 ·rw[h'] at hg;cases hg
 ·rw[h'] at hg;injection hg with hg;subst hg;exact frozen_of_row wr g' j cur 36 dE
theorem Loc.store{g cap:Nat}(h:Loc own wr b c k (.slice (some ⟨g,0,none⟩) ss.length cap) ss)(hf:Fresh own wr)(hk:k≠0)(hq:ss[q]? = some s)(m:Nat):
  Loc own (wr.setCell ⟨g,q*10,none⟩ (.int .i64 m)) b c k (.slice (some ⟨g,0,none⟩) ss.length cap) (ss.set q (withKind s m))/\Upd (λ n=>n=k) own own wr (wr.setCell ⟨g,q*10,none⟩ (.int .i64 m)):=by
 obtain⟨B,hr⟩:=h.row;have dQ:own g=k:=h.loose g rfl;have hu:Upd (λ n=>n=k) own own wr (wr.setCell ⟨g,q*10,none⟩ (.int .i64 m)):=(Upd.refl _ own wr hf).setCell (λ _=>dQ) _;refine⟨⟨h.blk.upd hu (by rw[h.mine];exact λ e=>hk e.symm),h.mine,⟨B,?_⟩,h.loose⟩,hu⟩;have h1:=(hr.stored (q*10) (.int .i64 m)).1;rw[Ztd m ss q s hq] at h1;rw[List.length_set];exact h1
theorem Loc.slice(h:Loc own wr b c k v ss):∃ a cap,v = .slice a ss.length cap:=by
 obtain⟨B,hr⟩:=h.row;exact Zs hr
theorem nwk:¬ Zp 1 900000:=λ h=>absurd h.2 ZJ
theorem Loc.bt(hb:Blk wr b 23 (Zal c))(ho:own b=0)(hf:Fresh own wr)(hr:w'.ownsRow wr.heap.size 36 10 v ss.length (ss.flatMap stL))(bq:Below wr.heap.size wr w')(k:Nat):
  Loc (own.put v k) w' b c k v ss/\Upd (λ _=>False) own (own.put v k) wr w':=by
 refine⟨⟨hb.ob bq,?_,⟨_,hr⟩,λ g hg=>?_⟩,(ZUb bq hf).bt (λ g hg=>Zb hr hg) k⟩
 ·unfold Own.put;rw[if_neg (λ e=>by have:=(Zb hr e).1;have:=hb.lt;omega)];exact ho
 ·unfold Own.put;rw[if_pos hg]
theorem Zte(n:Nat)(ss:List RawSt):(Zs5 n ss).length<=60:=by unfold Zs5;rw[List.length_map,ZV];omega
theorem Ztf{ss:List RawSt}(hc:c.Ok)(h:∀ s∈ss,RawOk s):∀ s∈Zs5 c.n ss,StOk c s:=by
 intro s hs;unfold Zs5 at hs;obtain⟨r,hr,rfl⟩:=List.mem_map.1 hs;exact Ztc hc (h r (List.mem_of_mem_take hr))
theorem Blk.a5{w:World}{g:Nat}{ty:TypeId}{u:Bool}{k:Clk}{sent:Nat}{vh vl:Value}(h:Blk w g ty (Zx u k sent vh vl)){i:Nat}(hi:i<5):w.cell? ⟨g,1+i,none⟩=some (.int .i64 (k.get i)):=by
 have h5:i=0∨i=1∨i=2∨i=3∨i=4:=ZO;rcases h5 with rfl | rfl | rfl | rfl | rfl
 ·exact h.cell 1
 ·exact h.cell 2
 ·exact h.cell 3
 ·exact h.cell 4
 ·exact h.cell 5
theorem Blk.hubLen{w:World}{g:Nat}{ty:TypeId}{u:Bool}{b l:Clk}{ac:List Clk}(h:Blk w g ty (Zt u b l ac)){i:Nat}(hi:i<5):w.cell? ⟨g,6+i,none⟩=some (.int .i64 (l.get i)):=by
 have hc:∀ k v,([.bool u,.int .i64 (b.c0:Int),.int .i64 (b.c1:Int),.int .i64 (b.c2:Int),.int .i64 (b.c3:Int),.int .i64 (b.c4:Int),.int .i64 (l.c0:Int),.int .i64 (l.c1:Int),.int .i64 (l.c2:Int),.int .i64 (l.c3:Int),.int .i64 (l.c4:Int)]:List Value)[k]? = some v->w.cell? ⟨g,k,none⟩=some v:=λ k v hk=>by
  have dN:k<11:=by
   have:=(ZZ.1 hk).1;simpa using this
  rw[h.cell];unfold Zt;rw[Array.getElem?_append_left ZP];simpa using hk
 have h5:i=0∨i=1∨i=2∨i=3∨i=4:=ZO;rcases h5 with rfl | rfl | rfl | rfl | rfl <;> exact hc _ _ rfl
abbrev Ztk:Array Value:=Zt false ZCz ZCz (List.replicate 5 ZCz)
abbrev Zs2:Array Value:=Zx false ZCz 0 (.slice none 0 0) (.slice none 0 0)
end
end
end Go.Proofs.YtjkfognelhiepaaGreat
