import Derived.Test.YtjkfognelhiepaaGreatC28
import Derived.Deep.Onto
namespace Go.Proofs.YtjkfognelhiepaaGreat
open Go.RowKit _root_.Go.Proofs.Tryz
set_option maxRecDepth 100000
set_option maxHeartbeats 8000000
section
open Go.RowKit Go.Sort Go.Shelf Go.Maps
theorem Ztf(s:ByteArray):toB (ofB s)=s:=rfl
end
def Zs3(s:RawSt):Nat:=(Zle s.kind 12).toNat
def Ztd(n:Nat)(s:RawSt):Nat:=if (Zle s.r (n+1)).toNat=n then(if Zs3 s<8∨Zs3 s=11 then 0 else 5) else(Zle s.r (n+1)).toNat
def Zs1(n:Nat)(s:RawSt):St:=⟨Zs3 s,Ztd n s,ZcX s.ek,Zd0 (Zej s.key s.key.size),Zg3 (ZcX s.ek) s.label,ZeG (ZcX s.ek) s.value,s.at_,s.bit,s.mask.toNat,s.keep,false⟩
theorem Ztc(s:RawSt):Zs3 s<=11:=by
 have h:=Zns s.kind (k:=12) ZO;unfold Zs3;omega
theorem ZtA{c:Cfg}(hc:c.Ok)(s:RawSt):Ztd c.n s<c.n∨Ztd c.n s=5/\8<=Zs3 s/\Zs3 s<=10:=by
 have h:=Zns s.r (k:=c.n+1) ZO;have hk:=Ztc s;have h1:=hc.n1;unfold Ztd;split
 ·split
  ·exact .inl ZO
  ·exact .inr ⟨rfl,ZO,ZO⟩
 ·exact .inl ZO
theorem Ztu{c:Cfg}(hc:c.Ok){s:RawSt}(hs:RawOk s):StOk c (Zs1 c.n s):=by
 refine⟨Ztc s,?_,ZsV _ _ _ _,?_⟩
 ·rcases ZtA hc s with h | h
  ·exact .inl h
  ·exact .inr h.1
 ·show s.mask.toNat<4294967296
  have:=hs.mask0;have:=hs.mask;omega
abbrev Zs2(s:St):Array Value:=#[.int .i64 s.kind,.int .i64 s.r,.int .i64 s.ek,.string s.key,.int .i64 s.label,.string s.value,.int .i64 s.at_,.int .i64 s.bit,.int .u32 s.mask,.int .i64 s.keep]
abbrev ZtC(s:St):Value := .agg (Zs2 s)
theorem Blk.a5{w:World}{g:Nat}{ty:TypeId}{v0 v1 v2 v3 v4 v5 v6 v7 v8 v9:Value}(h:Blk w g ty #[v0,v1,v2,v3,v4,v5,v6,v7,v8,v9]):w.cell? ⟨g,0,none⟩=some v0/\w.cell? ⟨g,1,none⟩=some v1/\w.cell? ⟨g,2,none⟩=some v2/\w.cell? ⟨g,3,none⟩=some v3/\w.cell? ⟨g,4,none⟩=some v4/\w.cell? ⟨g,5,none⟩=some v5/\w.cell? ⟨g,6,none⟩=some v6/\w.cell? ⟨g,7,none⟩=some v7/\w.cell? ⟨g,8,none⟩=some v8/\w.cell? ⟨g,9,none⟩=some v9 :=
 ⟨h.cell 0,h.cell 1,h.cell 2,h.cell 3,h.cell 4,h.cell 5,h.cell 6,h.cell 7,h.cell 8,h.cell 9⟩
theorem ZtG(s:RawSt)(n:Nat)(h1:1<=n)(h5:n<=5)(hs:RawOk s)(w:World):
  Calls prog 31 #[.agg #[.int .i64 s.kind,.int .i64 s.r,.int .i64 s.ek,.string s.key,.int .i64 s.label,.string s.value,.int .i64 s.at_,.int .i64 s.bit,.int .u32 s.mask,.int .i64 s.keep],.int .i64 n] w (Zv (ZtC (Zs1 n s)) w):=by
 have hb:=(ZBn w 36 #[.int .i64 s.kind,.int .i64 s.r,.int .i64 s.ek,.string s.key,.int .i64 s.label,.string s.value,.int .i64 s.at_,.int .i64 s.bit,.int .u32 s.mask,.int .i64 s.keep]).alloc (.cells #[.int .i64 0,.int .i64 0,.int .i64 0,.string ByteArray.empty,.int .i64 0,.string ByteArray.empty,.int .i64 0,.int .i64 0,.int .u32 0,.int .i64 0] 36);obtain⟨c0,c1,c2,c3,c4,c5,c6,c7,c8,c9⟩:=hb.a5;have hl:=hb.lt;clear hb;have da:(wrap64 (s.kind.tmod 12+12)).tmod 12=(Zs3 s:Int):=ZsW s.kind ZO ZO;obtain⟨R,hR⟩:∃ R,R=(Zle s.r (n+1)).toNat:=⟨_,rfl⟩;have dC:(wrap64 (wrap64 (s.r.tmod ((n:Int)+1)+(n:Int))+1)).tmod ((n:Int)+1)=(R:Int):=by
  rw[hR,←ZsW s.r ZO ZO];have b1:=Int.tmod_lt_of_pos s.r (show 0<(n:Int)+1 by omega);have b2 : -((n:Int)+1)<s.r.tmod ((n:Int)+1):=by
   have:=Int.tmod_lt_of_pos (-s.r) (show 0<(n:Int)+1 by omega);rw[Int.neg_tmod] at this;omega
  generalize s.r.tmod ((n:Int)+1)=z at *;have e:wrap64 (wrap64 (z+(n:Int))+1)=wrap64 (z+((n:Int)+1)):=by unfold wrap64;omega
  rw[e]
 have ct:=Ztc s;have cZ:Ztd n s=if R=n then(if Zs3 s<8∨Zs3 s=11 then 0 else 5) else R:=by rw[hR];rfl
 have aQ:=ZH cZ;obtain⟨K,hK⟩:∃ K,K=Zs3 s:=⟨_,rfl⟩;rw[←hK] at da ct aQ;obtain⟨br,HKW,HRW⟩:=ZH3 hK da dC;have hRn:R<=n:=by
  have:=Zns s.r (k:=(n:Int)+1) ZO;omega
 clear hK cZ hR;have aJ:=ZH (ZsZ s.ek s.key s.label s.value · hs.key hs.value);go_enter func31,ntmps31;by_cases hr:R=n
 ·by_cases h8:K<8
  ·obtain⟨bd,cc⟩:=ZH2 hr h8;go_wp2_with fail;have aD:=(ZBn w 36 #[.int .i64 (K:Int),.int .i64 0,.int .i64 s.ek,.string s.key,.int .i64 s.label,.string s.value,.int .i64 s.at_,.int .i64 s.bit,.int .u32 s.mask,.int .i64 s.keep]).alloc (.cells #[.int .i64 0,.int .i64 0,.int .i64 0,.string ⟨#[]⟩,.int .i64 0,.string ⟨#[]⟩,.int .i64 0,.int .i64 0,.int .u32 0,.int .i64 0] 36);have ab:=ZBn (w.alloc (.cells #[.int .i64 (K:Int),.int .i64 0,.int .i64 s.ek,.string s.key,.int .i64 s.label,.string s.value,.int .i64 s.at_,.int .i64 s.bit,.int .u32 s.mask,.int .i64 s.keep] 36)) 36 #[.int .i64 0,.int .i64 0,.int .i64 0,.string ⟨#[]⟩,.int .i64 0,.string ⟨#[]⟩,.int .i64 0,.int .i64 0,.int .u32 0,.int .i64 0];rw[World.size_alloc] at ab;have ax:=((ZKr w).alloc (.cells #[.int .i64 (K:Int),.int .i64 0,.int .i64 s.ek,.string s.key,.int .i64 s.label,.string s.value,.int .i64 s.at_,.int .i64 s.bit,.int .u32 s.mask,.int .i64 s.keep] 36)).alloc (.cells #[.int .i64 0,.int .i64 0,.int .i64 0,.string ⟨#[]⟩,.int .i64 0,.string ⟨#[]⟩,.int .i64 0,.int .i64 0,.int .u32 0,.int .i64 0] 36);refine(aJ.out _).mono ?_;generalize (w.alloc (.cells #[.int .i64 (K:Int),.int .i64 0,.int .i64 s.ek,.string s.key,.int .i64 s.label,.string s.value,.int .i64 s.at_,.int .i64 s.bit,.int .u32 s.mask,.int .i64 s.keep] 36)).alloc (.cells #[.int .i64 0,.int .i64 0,.int .i64 0,.string ⟨#[]⟩,.int .i64 0,.string ⟨#[]⟩,.int .i64 0,.int .i64 0,.int .u32 0,.int .i64 0] 36)=W at *;rintro _ w1 ⟨rfl,hb⟩;obtain⟨HB,HK⟩:=ZH2 (ab.ob hb) (ax.step hb);have hc:=aD.ob hb;clear aD ab ax hb;obtain⟨c0,c1,c2,c3,c4,c5,c6,c7,c8,c9⟩:=hc.a5;have hl:=hc.lt;have hf:=λ i=>hc.frozen i
   obtain⟨d0,d1,d2,d3,d4,d5,d6,d7,d8,d9⟩:=HB.out.a5;have cC:=HB.out.lt;have cB:=λ i=>HB.out.frozen i
   clear hc;go_wp2_with fail;have be:Ztd n s=0:=by rw[aQ.out];rw[if_pos bd.out,if_pos (.inl cc.out)]
   have aw:=Zaw (vs:=Zs2 ⟨K,0,ZcX s.ek,Zd0 (Zej s.key s.key.size),Zg3 (ZcX s.ek) s.label,ZeG (ZcX s.ek) s.value,s.at_,s.bit,s.mask.toNat,s.keep,false⟩) ((Zaj (show w.heap.size+1≠w.heap.size by omega) [.int .i64 (ZcX s.ek:Int),.string (Zd0 (Zej s.key s.key.size)),.int .i64 (Zg3 (ZcX s.ek) s.label:Int),.string (ZeG (ZcX s.ek) s.value)] 2 w1).trans HB.out) rfl;have bt:=ZaB (ZaB HK.out (g:=w.heap.size) (ZL _) 2 [.int .i64 (ZcX s.ek:Int),.string (Zd0 (Zej s.key s.key.size)),.int .i64 (Zg3 (ZcX s.ek) s.label:Int),.string (ZeG (ZcX s.ek) s.value)]) (g:=w.heap.size+1) ZO 0 (Zs2 ⟨K,0,ZcX s.ek,Zd0 (Zej s.key s.key.size),Zg3 (ZcX s.ek) s.label,ZeG (ZcX s.ek) s.value,s.at_,s.bit,s.mask.toNat,s.keep,false⟩).toList;have bv:s.mask=((s.mask.toNat:Nat):Int):=by have:=hs.mask0;omega
   have e:Zs1 n s=⟨K,0,ZcX s.ek,Zd0 (Zej s.key s.key.size),Zg3 (ZcX s.ek) s.label,ZeG (ZcX s.ek) s.value,s.at_,s.bit,s.mask.toNat,s.keep,false⟩:=by unfold Zs1;rw[be,←br.out]
   rw[e];rw[bv];refine bodyPost_ret (Zac rfl rfl (run_loadVar_row _ _ _ _ _ _ _ aw underlying36 rfl ZK)) rfl ?_;exact⟨rfl,bt.below⟩
  ·by_cases bY:K=11
   focus
    obtain⟨bd,ba⟩:=ZH2 hr bY;have cw:((K:Int)==11)=true:=by rw[bY];rfl
    clear bY;go_wp2_with fail;have aD:=(ZBn w 36 #[.int .i64 (K:Int),.int .i64 0,.int .i64 s.ek,.string s.key,.int .i64 s.label,.string s.value,.int .i64 s.at_,.int .i64 s.bit,.int .u32 s.mask,.int .i64 s.keep]).alloc (.cells #[.int .i64 0,.int .i64 0,.int .i64 0,.string ⟨#[]⟩,.int .i64 0,.string ⟨#[]⟩,.int .i64 0,.int .i64 0,.int .u32 0,.int .i64 0] 36);have ab:=ZBn (w.alloc (.cells #[.int .i64 (K:Int),.int .i64 0,.int .i64 s.ek,.string s.key,.int .i64 s.label,.string s.value,.int .i64 s.at_,.int .i64 s.bit,.int .u32 s.mask,.int .i64 s.keep] 36)) 36 #[.int .i64 0,.int .i64 0,.int .i64 0,.string ⟨#[]⟩,.int .i64 0,.string ⟨#[]⟩,.int .i64 0,.int .i64 0,.int .u32 0,.int .i64 0];rw[World.size_alloc] at ab;have ax:=((ZKr w).alloc (.cells #[.int .i64 (K:Int),.int .i64 0,.int .i64 s.ek,.string s.key,.int .i64 s.label,.string s.value,.int .i64 s.at_,.int .i64 s.bit,.int .u32 s.mask,.int .i64 s.keep] 36)).alloc (.cells #[.int .i64 0,.int .i64 0,.int .i64 0,.string ⟨#[]⟩,.int .i64 0,.string ⟨#[]⟩,.int .i64 0,.int .i64 0,.int .u32 0,.int .i64 0] 36);refine(aJ.out _).mono ?_;generalize (w.alloc (.cells #[.int .i64 (K:Int),.int .i64 0,.int .i64 s.ek,.string s.key,.int .i64 s.label,.string s.value,.int .i64 s.at_,.int .i64 s.bit,.int .u32 s.mask,.int .i64 s.keep] 36)).alloc (.cells #[.int .i64 0,.int .i64 0,.int .i64 0,.string ⟨#[]⟩,.int .i64 0,.string ⟨#[]⟩,.int .i64 0,.int .i64 0,.int .u32 0,.int .i64 0] 36)=W at *;rintro _ w1 ⟨rfl,hb⟩;obtain⟨HB,HK⟩:=ZH2 (ab.ob hb) (ax.step hb);have hc:=aD.ob hb;clear aD ab ax hb;obtain⟨c0,c1,c2,c3,c4,c5,c6,c7,c8,c9⟩:=hc.a5;have hl:=hc.lt;have hf:=λ i=>hc.frozen i
    obtain⟨d0,d1,d2,d3,d4,d5,d6,d7,d8,d9⟩:=HB.out.a5;have cC:=HB.out.lt;have cB:=λ i=>HB.out.frozen i
    clear hc;go_wp2_with fail;have be:Ztd n s=0:=by rw[aQ.out];rw[if_pos bd.out,if_pos (.inr ba.out)]
    have aw:=Zaw (vs:=Zs2 ⟨K,0,ZcX s.ek,Zd0 (Zej s.key s.key.size),Zg3 (ZcX s.ek) s.label,ZeG (ZcX s.ek) s.value,s.at_,s.bit,s.mask.toNat,s.keep,false⟩) ((Zaj (show w.heap.size+1≠w.heap.size by omega) [.int .i64 (ZcX s.ek:Int),.string (Zd0 (Zej s.key s.key.size)),.int .i64 (Zg3 (ZcX s.ek) s.label:Int),.string (ZeG (ZcX s.ek) s.value)] 2 w1).trans HB.out) rfl;have bt:=ZaB (ZaB HK.out (g:=w.heap.size) (ZL _) 2 [.int .i64 (ZcX s.ek:Int),.string (Zd0 (Zej s.key s.key.size)),.int .i64 (Zg3 (ZcX s.ek) s.label:Int),.string (ZeG (ZcX s.ek) s.value)]) (g:=w.heap.size+1) ZO 0 (Zs2 ⟨K,0,ZcX s.ek,Zd0 (Zej s.key s.key.size),Zg3 (ZcX s.ek) s.label,ZeG (ZcX s.ek) s.value,s.at_,s.bit,s.mask.toNat,s.keep,false⟩).toList;have bv:s.mask=((s.mask.toNat:Nat):Int):=by have:=hs.mask0;omega
    have e:Zs1 n s=⟨K,0,ZcX s.ek,Zd0 (Zej s.key s.key.size),Zg3 (ZcX s.ek) s.label,ZeG (ZcX s.ek) s.value,s.at_,s.bit,s.mask.toNat,s.keep,false⟩:=by unfold Zs1;rw[be,←br.out]
   rotate_left
   focus
    obtain⟨bd,ba,cc⟩:=ZH3 hr bY h8;have cw:((K:Int)==11)=false:=ZP;go_wp2_with fail;have aD:=(ZBn w 36 #[.int .i64 (K:Int),.int .i64 5,.int .i64 s.ek,.string s.key,.int .i64 s.label,.string s.value,.int .i64 s.at_,.int .i64 s.bit,.int .u32 s.mask,.int .i64 s.keep]).alloc (.cells #[.int .i64 0,.int .i64 0,.int .i64 0,.string ⟨#[]⟩,.int .i64 0,.string ⟨#[]⟩,.int .i64 0,.int .i64 0,.int .u32 0,.int .i64 0] 36);have ab:=ZBn (w.alloc (.cells #[.int .i64 (K:Int),.int .i64 5,.int .i64 s.ek,.string s.key,.int .i64 s.label,.string s.value,.int .i64 s.at_,.int .i64 s.bit,.int .u32 s.mask,.int .i64 s.keep] 36)) 36 #[.int .i64 0,.int .i64 0,.int .i64 0,.string ⟨#[]⟩,.int .i64 0,.string ⟨#[]⟩,.int .i64 0,.int .i64 0,.int .u32 0,.int .i64 0];rw[World.size_alloc] at ab;have ax:=((ZKr w).alloc (.cells #[.int .i64 (K:Int),.int .i64 5,.int .i64 s.ek,.string s.key,.int .i64 s.label,.string s.value,.int .i64 s.at_,.int .i64 s.bit,.int .u32 s.mask,.int .i64 s.keep] 36)).alloc (.cells #[.int .i64 0,.int .i64 0,.int .i64 0,.string ⟨#[]⟩,.int .i64 0,.string ⟨#[]⟩,.int .i64 0,.int .i64 0,.int .u32 0,.int .i64 0] 36);refine(aJ.out _).mono ?_;generalize (w.alloc (.cells #[.int .i64 (K:Int),.int .i64 5,.int .i64 s.ek,.string s.key,.int .i64 s.label,.string s.value,.int .i64 s.at_,.int .i64 s.bit,.int .u32 s.mask,.int .i64 s.keep] 36)).alloc (.cells #[.int .i64 0,.int .i64 0,.int .i64 0,.string ⟨#[]⟩,.int .i64 0,.string ⟨#[]⟩,.int .i64 0,.int .i64 0,.int .u32 0,.int .i64 0] 36)=W at *;rintro _ w1 ⟨rfl,hb⟩;obtain⟨HB,HK⟩:=ZH2 (ab.ob hb) (ax.step hb);have hc:=aD.ob hb;clear aD ab ax hb;obtain⟨c0,c1,c2,c3,c4,c5,c6,c7,c8,c9⟩:=hc.a5;have hl:=hc.lt;have hf:=λ i=>hc.frozen i
    obtain⟨d0,d1,d2,d3,d4,d5,d6,d7,d8,d9⟩:=HB.out.a5;have cC:=HB.out.lt;have cB:=λ i=>HB.out.frozen i
    clear hc;go_wp2_with fail;have be:Ztd n s=5:=by rw[aQ.out];rw[if_pos bd.out,if_neg (λ h=>h.elim cc.out ba.out)]
    have aw:=Zaw (vs:=Zs2 ⟨K,5,ZcX s.ek,Zd0 (Zej s.key s.key.size),Zg3 (ZcX s.ek) s.label,ZeG (ZcX s.ek) s.value,s.at_,s.bit,s.mask.toNat,s.keep,false⟩) ((Zaj (show w.heap.size+1≠w.heap.size by omega) [.int .i64 (ZcX s.ek:Int),.string (Zd0 (Zej s.key s.key.size)),.int .i64 (Zg3 (ZcX s.ek) s.label:Int),.string (ZeG (ZcX s.ek) s.value)] 2 w1).trans HB.out) rfl;have bt:=ZaB (ZaB HK.out (g:=w.heap.size) (ZL _) 2 [.int .i64 (ZcX s.ek:Int),.string (Zd0 (Zej s.key s.key.size)),.int .i64 (Zg3 (ZcX s.ek) s.label:Int),.string (ZeG (ZcX s.ek) s.value)]) (g:=w.heap.size+1) ZO 0 (Zs2 ⟨K,5,ZcX s.ek,Zd0 (Zej s.key s.key.size),Zg3 (ZcX s.ek) s.label,ZeG (ZcX s.ek) s.value,s.at_,s.bit,s.mask.toNat,s.keep,false⟩).toList;have bv:s.mask=((s.mask.toNat:Nat):Int):=by have:=hs.mask0;omega
    have e:Zs1 n s=⟨K,5,ZcX s.ek,Zd0 (Zej s.key s.key.size),Zg3 (ZcX s.ek) s.label,ZeG (ZcX s.ek) s.value,s.at_,s.bit,s.mask.toNat,s.keep,false⟩:=by unfold Zs1;rw[be,←br.out]
   rotate_left
   all_goals
    rw[e];rw[bv];refine bodyPost_ret (Zac rfl rfl (run_loadVar_row _ _ _ _ _ _ _ aw underlying36 rfl ZK)) rfl ?_;exact⟨rfl,bt.below⟩
 ·have bd:=ZH hr;have hbr:((R:Int)==(n:Int))=false:=ZP;go_wp2_with fail;have aD:=(ZBn w 36 #[.int .i64 (K:Int),.int .i64 (R:Int),.int .i64 s.ek,.string s.key,.int .i64 s.label,.string s.value,.int .i64 s.at_,.int .i64 s.bit,.int .u32 s.mask,.int .i64 s.keep]).alloc (.cells #[.int .i64 0,.int .i64 0,.int .i64 0,.string ⟨#[]⟩,.int .i64 0,.string ⟨#[]⟩,.int .i64 0,.int .i64 0,.int .u32 0,.int .i64 0] 36);have ab:=ZBn (w.alloc (.cells #[.int .i64 (K:Int),.int .i64 (R:Int),.int .i64 s.ek,.string s.key,.int .i64 s.label,.string s.value,.int .i64 s.at_,.int .i64 s.bit,.int .u32 s.mask,.int .i64 s.keep] 36)) 36 #[.int .i64 0,.int .i64 0,.int .i64 0,.string ⟨#[]⟩,.int .i64 0,.string ⟨#[]⟩,.int .i64 0,.int .i64 0,.int .u32 0,.int .i64 0];rw[World.size_alloc] at ab;have ax:=((ZKr w).alloc (.cells #[.int .i64 (K:Int),.int .i64 (R:Int),.int .i64 s.ek,.string s.key,.int .i64 s.label,.string s.value,.int .i64 s.at_,.int .i64 s.bit,.int .u32 s.mask,.int .i64 s.keep] 36)).alloc (.cells #[.int .i64 0,.int .i64 0,.int .i64 0,.string ⟨#[]⟩,.int .i64 0,.string ⟨#[]⟩,.int .i64 0,.int .i64 0,.int .u32 0,.int .i64 0] 36);refine(aJ.out _).mono ?_;generalize (w.alloc (.cells #[.int .i64 (K:Int),.int .i64 (R:Int),.int .i64 s.ek,.string s.key,.int .i64 s.label,.string s.value,.int .i64 s.at_,.int .i64 s.bit,.int .u32 s.mask,.int .i64 s.keep] 36)).alloc (.cells #[.int .i64 0,.int .i64 0,.int .i64 0,.string ⟨#[]⟩,.int .i64 0,.string ⟨#[]⟩,.int .i64 0,.int .i64 0,.int .u32 0,.int .i64 0] 36)=W at *;rintro _ w1 ⟨rfl,hb⟩;obtain⟨HB,HK⟩:=ZH2 (ab.ob hb) (ax.step hb);have hc:=aD.ob hb;clear aD ab ax hb;obtain⟨c0,c1,c2,c3,c4,c5,c6,c7,c8,c9⟩:=hc.a5;have hl:=hc.lt;have hf:=λ i=>hc.frozen i
  obtain⟨d0,d1,d2,d3,d4,d5,d6,d7,d8,d9⟩:=HB.out.a5;have cC:=HB.out.lt;have cB:=λ i=>HB.out.frozen i
  clear hc;go_wp2_with fail;have be:Ztd n s=R:=by rw[aQ.out];rw[if_neg bd.out]
  have aw:=Zaw (vs:=Zs2 ⟨K,R,ZcX s.ek,Zd0 (Zej s.key s.key.size),Zg3 (ZcX s.ek) s.label,ZeG (ZcX s.ek) s.value,s.at_,s.bit,s.mask.toNat,s.keep,false⟩) ((Zaj (show w.heap.size+1≠w.heap.size by omega) [.int .i64 (ZcX s.ek:Int),.string (Zd0 (Zej s.key s.key.size)),.int .i64 (Zg3 (ZcX s.ek) s.label:Int),.string (ZeG (ZcX s.ek) s.value)] 2 w1).trans HB.out) rfl;have bt:=ZaB (ZaB HK.out (g:=w.heap.size) (ZL _) 2 [.int .i64 (ZcX s.ek:Int),.string (Zd0 (Zej s.key s.key.size)),.int .i64 (Zg3 (ZcX s.ek) s.label:Int),.string (ZeG (ZcX s.ek) s.value)]) (g:=w.heap.size+1) ZO 0 (Zs2 ⟨K,R,ZcX s.ek,Zd0 (Zej s.key s.key.size),Zg3 (ZcX s.ek) s.label,ZeG (ZcX s.ek) s.value,s.at_,s.bit,s.mask.toNat,s.keep,false⟩).toList;have bv:s.mask=((s.mask.toNat:Nat):Int):=by have:=hs.mask0;omega
  have e:Zs1 n s=⟨K,R,ZcX s.ek,Zd0 (Zej s.key s.key.size),Zg3 (ZcX s.ek) s.label,ZeG (ZcX s.ek) s.value,s.at_,s.bit,s.mask.toNat,s.keep,false⟩:=by unfold Zs1;rw[be,←br.out]
  rw[e];rw[bv];refine bodyPost_ret (Zac rfl rfl (run_loadVar_row _ _ _ _ _ _ _ aw underlying36 rfl ZK)) rfl ?_;exact⟨rfl,bt.below⟩
def stL(s:St):List Value:=(Zs2 s).toList
def Zs5(n:Nat)(ss:List RawSt):List St:=(ss.take 60).map (Zs1 n)
theorem ZtE:(prog.info? 36).map (λ i=>(i.zero,i.size,i.bytes))=some (some (.agg #[.int .i64 0,.int .i64 0,.int .i64 0,.string ByteArray.empty,.int .i64 0,.string ByteArray.empty,.int .i64 0,.int .i64 0,.int .u32 0,.int .i64 0]),10,96):=ZK
theorem Zth(w:World)(e:TypeId)(sz:Nat):(w.alloc (.cells #[] e)).ownsRow w.heap.size e sz (.slice (some ⟨w.heap.size,0,none⟩) 0 0) 0 [] :=
 ⟨ZM,.inr ⟨w.heap.size,0,#[],rfl,ZL _,heap_alloc_new w _,ZL _,by simp[maxLen],ZM,ZM⟩⟩
theorem Ztz{w:World}{a:Option Addr}{n cap N:Nat}{ss:List RawSt}(hr:Reads w w.heap.size 10 a n (ss.flatMap Zdi))(hn:n=ss.length)(ay:∀ s∈ss,RawOk s)(h1:1<=N)(h5:N<=5)(bD:n<9223372036854775807):
  Calls prog 13 #[.slice a n cap,.int .i64 N] w λ e w'=>∃ v,e = .returned v/\w'.ownsRow w.heap.size 36 10 v (Zs5 N ss).length ((Zs5 N ss).flatMap stL)/\Below w.heap.size w w':=by
 obtain⟨i0,hi,cM,bV,cN⟩:=info_parts ZtE;obtain⟨HR,HN,am⟩:=ZH3 hr hn ay;have HO:Hid ((w.alloc (.cells #[] 36)).ownsRow w.heap.size 36 10 (.slice (some ⟨w.heap.size,0,none⟩) 0 0) 0 (((ss.take 0).map (Zs1 N)).flatMap stL)):=ZH (Zth w 36 10);have HK:=ZH ((ZKr w).alloc (.cells #[] 36));have hm:min n 60<=n:=Nat.min_le_left _ _;clear hr hn ay;go_enter func13,ntmps13;go_wp2_with fail;go_loopw [5,6] (λ v i wr=>∃ q:Nat,q<=n/\q<=60/\i = .int .i64 q/\Hid (wr.ownsRow w.heap.size 36 10 v q (((ss.take q).map (Zs1 N)).flatMap stL))/\Hid (Kept w.heap.size w wr)) (λ _ i _=>n-(intOf i).toNat)
 case atStart=>exact⟨0,ZO,ZO,rfl,HO,HK⟩
 case round =>
  clear HO HK;obtain⟨q,hq,hq6,rfl,HO,HK⟩:=hrel;obtain⟨av,cv,rfl⟩:=Zs HO.out;by_cases bN:q<n
  ·by_cases hq60:q<60
   ·obtain⟨s,he⟩:∃ s,ss[q]? = some s:=⟨_,ZX (by rw[←HN.out];exact bN)⟩;have aU:=ZH (am.out s (ZY he));obtain⟨bk,off,rfl,aq,hc⟩:=ZsX (HR.out.below HK.out.below) HN.out he;have c0:=hc 0 _ rfl;have c1:=hc 1 _ rfl;have c2:=hc 2 _ rfl;have c3:=hc 3 _ rfl;have c4:=hc 4 _ rfl;have c5:=hc 5 _ rfl;have c6:=hc 6 _ rfl;have c7:=hc 7 _ rfl;have c8:=hc 8 _ rfl;have c9:=hc 9 _ rfl;simp only[Nat.add_zero] at c0;have dm:((ss.take (q+1)).map (Zs1 N)).flatMap stL=((ss.take q).map (Zs1 N)).flatMap stL++stL (Zs1 N s):=by
     rw[List.take_add_one,he];simp
    have dA:=ZH dm;clear he dm hc;go_wp2_with fail;refine(ZtG s N h1 h5 aU.out wr).mono ?_;rintro _ w1 ⟨rfl,ab⟩;have bK:=HK.out.step ab;have bM:=Ze HO.out ab;have bA:=ZH (bM.alloc (.cells (Zs2 (Zs1 N s)) 36));have aN:=bK.alloc (.cells (Zs2 (Zs1 N s)) 36);have ci:Hid (Reads (w1.alloc (.cells (Zs2 (Zs1 N s)) 36)) _ 10 (some ⟨w1.heap.size,0,none⟩) 1 (stL (Zs1 N s))):=ZH (Reads.ao (ZBn w1 36 _) rfl);have aY:=aN.le;have aC:=ZH aN
    have bb:Hid (∀ u∈stL (Zs1 N s),u.oneCell'=true):=ZH (λ u hu=>by
     simp[stL] at hu
     rcases hu with rfl | rfl | rfl | rfl | rfl | rfl | rfl | rfl | rfl | rfl <;> rfl)
    clear ab bK bM aN c0 c1 c2 c3 c4 c5 c6 c7 c8 c9
    go_wp2_with (first
     |(at_builtin
       refine Zc _ rfl (.tmp 18) (.tmp 25) _ rfl w.heap.size 36 i0 _ 10 96 underlying24 hi cM bV cN rfl ZO (.slice av q cv) q (((ss.take q).map (Zs1 N)).flatMap stL) rfl bA.out _ (some ⟨w1.heap.size,0,none⟩) 1 1 (stL (Zs1 N s)) rfl ci.out bb.out ZF ZO aY ?_;intro v7 w7 ag aX _;rw[←dA.out] at ag;have cf:Hid (Kept w.heap.size w w7):=ZH (⟨aC.out.below.grown aX aC.out.le (λ g hg=>(Zb bA.out hg).1),ZT aC.out.le aX.size⟩);have dw:=ZH ag
       clear ag aX ))
    go_roundw
    case rel=>exact⟨q+1,ZO,ZO,ZN,dw,cf⟩
    case measure=>simp[intOf];omega
   ·obtain rfl:q=60:=ZO;go_wp2
    go_ret;refine⟨_,rfl,?_,HK.out.below⟩;have e:(Zs5 N ss).length=60:=by unfold Zs5;rw[List.length_map,ZV];have:=HN.out;omega
    rw[e];exact HO.out
  ·obtain rfl:q=n:=ZO;go_wp2
   go_ret;refine⟨_,rfl,?_,HK.out.below⟩;have e:(Zs5 N ss).length=q:=by unfold Zs5;rw[List.length_map,ZV];have:=HN.out;omega
   have e2:ss.take q=ss.take 60:=by rw[ZU (by have:=HN.out;omega),ZU (by have:=HN.out;omega)]
   rw[e];rw[show Zs5 N ss=(ss.take q).map (Zs1 N) from by rw[e2];rfl];exact HO.out
section
section
variable {α : Type}[Inhabited α][DecidableEq α]
theorem Zs6(d:Array α)(x : α):∀ m,x∈Lib.compactUpTo d m↔∃ j,j<m/\d[j]! = x
 | 0=>by simp[Lib.compactUpTo]
 | m+1=>by
  have ih:=Zs6 d x m;rw[Lib.compactUpTo_succ,List.mem_append,ih];constructor
  ·rintro(⟨j,h1,h2⟩ | h)
   ·exact⟨j,ZO,h2⟩
   ·split at h
    ·simp at h;exact⟨m,ZO,h.symm⟩
    ·simp at h
  ·rintro⟨j,h1,h2⟩;by_cases hj:j<m
   ·exact .inl ⟨j,hj,h2⟩
   ·have dH:j=m:=ZO;subst dH;by_cases hk:Lib.keeps d j=true
    ·exact .inr (by simp[hk,h2])
    ·have bs:¬ (j=0∨d[j]! ≠ d[j-1]!):=λ h=>hk (by unfold Lib.keeps;exact decide_eq_true h)
     have h0:j≠0:=λ h=>bs (.inl h)
     have e:d[j]! = d[j-1]! := Classical.byContradiction λ h=>bs (.inr h)
     exact .inl ⟨j-1,ZO,by rw[←e,h2]⟩
theorem Ztp(zs:List α)(x : α):x∈Lib.compact zs↔x∈zs:=by
 unfold Lib.compact;rw[Zs6];constructor
 ·rintro⟨j,h1,h2⟩;have e:zs.toArray[j]! = zs[j]:=by simp[h1]
  rw[e] at h2;subst h2;exact List.getElem_mem h1
 ·intro h;obtain⟨j,h1,h2⟩:=List.getElem_of_mem h;exact⟨j,h1,by simp[h1,h2]⟩
end
theorem Zs7{s:ByteArray}{ss:List ByteArray}:s∈ZaS ss↔s∈ss:=by
 unfold ZaS;simp only[List.mem_map,List.mem_mergeSort];constructor
 ·rintro⟨a,⟨b,hb,rfl⟩,rfl⟩;rwa [Ztf]
 ·intro h;exact⟨_,⟨s,h,rfl⟩,Ztf s⟩
theorem Zte{s:ByteArray}{ss:List ByteArray}:s∈Za1 ss↔s∈ss:=by
 unfold Za1;simp only[List.mem_map,Ztp];constructor
 ·rintro⟨a,⟨b,hb,rfl⟩,rfl⟩;rwa [Ztf]
 ·intro h;exact⟨_,⟨s,h,rfl⟩,Ztf s⟩
theorem Ztl{ws:List Ev}{key v:ByteArray}{dr:Nat}:v∈Zhy ws key dr↔∃ e∈ws,e.key=key/\e.label=dr/\e.kind≠3/\e.value=v:=by
 unfold Zhy Z0 Zce;rw[Zte,Zs7];simp only[List.mem_map,List.mem_filter,Bool.and_eq_true,decide_eq_true_eq,Bool.not_eq_true',decide_eq_false_iff_not];constructor
 ·rintro⟨e,⟨⟨h1,h2,h3⟩,h4⟩,h5⟩;exact⟨e,h1,h2,h3,h4,h5⟩
 ·rintro⟨e,h1,h2,h3,h4,h5⟩;exact⟨e,⟨⟨h1,h2,h3⟩,h4⟩,h5⟩
theorem Ztg{l:List Ev}{C:Con}:C∈Zc1 l↔∃ e∈ZcJ l,C=Zbd e.key (ZcQ l (ZcJ l)):=by
 unfold Zc1 Zo7;simp only[List.mem_map,Zte,Zs7];constructor
 ·rintro⟨k,⟨e,he,rfl⟩,rfl⟩;exact⟨e,he,rfl⟩
 ·rintro⟨e,he,rfl⟩;exact⟨_,⟨e,he,rfl⟩,rfl⟩
section
variable {β : Type}{T:List (ByteArray × β)}{k a:ByteArray}{x y : β}
theorem Ztm(a:ByteArray)(y : β)(T:List (ByteArray × β))(k:ByteArray)(x : β):Zei ((a,y)::T) k x=if a=k then(k,x)::T else(a,y)::Zei T k x:=by
 unfold Zei atK;rw[List.findIdx?_cons];by_cases h:a=k
 ·simp[h]
 ·simp only[h,decide_false,Bool.false_eq_true,if_false]
  cases List.findIdx? (λ p=>decide (p.1=k)) T <;> simp
theorem Ztj(a:ByteArray)(y : β)(T:List (ByteArray × β))(k:ByteArray):Zeb ((a,y)::T) k=if a=k then T else(a,y)::Zeb T k:=by
 unfold Zeb atK;rw[List.findIdx?_cons];by_cases h:a=k
 ·simp[h]
 ·simp only[h,decide_false,Bool.false_eq_true,if_false]
  cases List.findIdx? (λ p=>decide (p.1=k)) T <;> simp
theorem Ztr(a:ByteArray)(y : β)(T:List (ByteArray × β))(k:ByteArray):ZaH ((a,y)::T) k=if a=k then some y else ZaH T k:=by
 unfold ZaH;rw[List.find?_cons];by_cases h:a=k
 ·simp[h]
 ·simp[h]
theorem Zta{T:List (ByteArray × β)}{k:ByteArray}{x : β}(h:(k,x)∈T):k∈T.map (·.1):=List.mem_map_of_mem (f:=(·.1)) h
theorem Zs9:∀ {T:List (ByteArray × β)},(T.map (·.1)).Nodup->(ZaH T k=some x↔(k,x)∈T)
 | [],_=>by simp[ZaH]
 |(a,y)::T,h=>by
  rw[List.map_cons,List.nodup_cons] at h;rw[Ztr,List.mem_cons];by_cases e:a=k
  ·subst e;rw[if_pos rfl];constructor
   ·intro h';injection h' with h';exact .inl (by rw[h'])
   ·rintro(h' | h')
    ·injection h' with _ h';rw[h']
    ·exact absurd (Zta h') h.1
  ·rw[if_neg e,Zs9 h.2];exact⟨λ h' => .inr h',λ h'=>h'.elim (λ h'=>by injection h' with h' _;exact absurd h'.symm e) id⟩
theorem Ztb{k':ByteArray}{x' : β}:∀ {T:List (ByteArray × β)},(T.map (·.1)).Nodup->((k',x')∈Zei T k x↔(k'=k/\x'=x)∨(k'≠k/\(k',x')∈T))
 | [],_=>by simp[Zei,atK]
 |(a,y)::T,h=>by
  rw[List.map_cons,List.nodup_cons] at h;rw[Ztm];by_cases e:a=k
  ·subst e;rw[if_pos rfl,List.mem_cons,List.mem_cons];constructor
   ·rintro(h' | h')
    ·injection h' with h1 h2;exact .inl ⟨h1,h2⟩
    ·exact .inr ⟨λ e=>h.1 (e▸Zta h'),.inr h'⟩
   ·rintro(⟨h1,h2⟩|⟨h1,h2⟩)
    ·exact .inl (by rw[h1,h2])
    ·rcases h2 with h2 | h2
     ·injection h2 with h2 _;exact absurd h2 h1
     ·exact .inr h2
  ·rw[if_neg e,List.mem_cons,Ztb h.2,List.mem_cons];constructor
   ·rintro(h' | h' | ⟨h1,h2⟩)
    ·refine .inr ⟨?_,.inl h'⟩;injection h' with h1 _;rw[h1];exact e
    ·exact .inl h'
    ·exact .inr ⟨h1,.inr h2⟩
   ·rintro(h' | ⟨h1,h2 | h2⟩)
    ·exact .inr (.inl h')
    ·exact .inl h2
    ·exact .inr (.inr ⟨h1,h2⟩)
theorem Ztn:∀ {T:List (ByteArray × β)},(T.map (·.1)).Nodup->((Zei T k x).map (·.1)).Nodup
 | [],_=>by simp[Zei,atK]
 |(a,y)::T,h=>by
  rw[List.map_cons,List.nodup_cons] at h;rw[Ztm];by_cases e:a=k
  ·subst e;rw[if_pos rfl,List.map_cons,List.nodup_cons];exact h
  ·rw[if_neg e,List.map_cons,List.nodup_cons];refine⟨λ h'=>?_,Ztn h.2⟩;obtain⟨⟨k',x'⟩,h1,h2⟩:=List.mem_map.1 h';simp only at h2;subst h2;rcases(Ztb h.2).1 h1 with ⟨h3,_⟩|⟨_,h3⟩
   ·exact e h3
   ·exact h.1 (Zta h3)
theorem Zs8{k':ByteArray}{x' : β}:∀ {T:List (ByteArray × β)},(T.map (·.1)).Nodup->((k',x')∈Zeb T k↔k'≠k/\(k',x')∈T)
 | [],_=>by simp[Zeb,atK]
 |(a,y)::T,h=>by
  rw[List.map_cons,List.nodup_cons] at h;rw[Ztj];by_cases e:a=k
  ·subst e;rw[if_pos rfl,List.mem_cons];constructor
   ·intro h';exact⟨λ e=>h.1 (e▸Zta h'),.inr h'⟩
   ·rintro⟨h1,h2 | h2⟩
    ·injection h2 with h2 _;exact absurd h2 h1
    ·exact h2
  ·rw[if_neg e,List.mem_cons,Zs8 h.2,List.mem_cons];constructor
   ·rintro(h' | ⟨h1,h2⟩)
    ·refine⟨?_,.inl h'⟩;injection h' with h1 _;rw[h1];exact e
    ·exact⟨h1,.inr h2⟩
   ·rintro⟨h1,h2 | h2⟩
    ·exact .inl h2
    ·exact .inr ⟨h1,h2⟩
theorem Ztk:∀ {T:List (ByteArray × β)},(T.map (·.1)).Nodup->((Zeb T k).map (·.1)).Nodup
 | [],_=>by simp[Zeb,atK]
 |(a,y)::T,h=>by
  rw[List.map_cons,List.nodup_cons] at h;rw[Ztj];by_cases e:a=k
  ·rw[if_pos e];exact h.2
  ·rw[if_neg e,List.map_cons,List.nodup_cons];refine⟨λ h'=>?_,Ztk h.2⟩;obtain⟨⟨k',x'⟩,h1,h2⟩:=List.mem_map.1 h';simp only at h2;subst h2;exact h.1 (Zta ((Zs8 h.2).1 h1).2)
end
def RowK(k:ByteArray)(l:List Ev):Prop:=∀ e∈l,e.key=k/\(e.kind=1∨e.kind=3∨e.kind=4)
structure KInv(K:List (ByteArray × List Ev))(log:List Ev):Prop where
 once:(K.map (·.1)).Nodup
 row:∀ p∈K,RowK p.1 p.2/\∀ e∈p.2,e∈log
section
variable {K:List (ByteArray × List Ev)}{log l:List Ev}{e:Ev}{k:ByteArray}
theorem RowK.a6(h:RowK k l){x:Ev}:x∈ZcJ l↔x∈l/\x.kind=1:=by
 have hn:∀ y,(l.any λ a=>decide (a.kind=2)&&ZdS a y&&y.below a)=false:=λ y=>by
  rw[List.any_eq_false];intro a ha;have:a.kind≠2:=by have:=(h a ha).2;omega
  simp[this]
 simp only[ZcJ,List.mem_filter,ZbT,hn,Bool.not_false,Bool.and_true,decide_eq_true_eq]
theorem RowK.counts(h:RowK k l){x:Ev}:x∈ZcQ l (ZcJ l)↔x∈l/\(x.kind=3∨x.kind=4)/\ZbP (ZcJ l) x=true:=by
 have hn:∀ y,ZfN l y=false:=λ y=>by
  unfold ZfN;rw[List.any_eq_false];intro a ha;have:a.kind≠5:=by have:=(h a ha).2;omega
  simp[this]
 simp only[ZcQ,List.mem_filter,ZeY,hn,Bool.not_false,Bool.and_true];by_cases h3:x.kind=3
 ·simp[h3]
 ·by_cases h4:x.kind=4
  ·simp[h4]
  ·simp[h3,h4]
theorem RowK.a8(h:RowK e.key l)(he:e.Ok):RowK e.key (ZaP l e):=by
 have h5:=he.edit.kind5;have h1:=he.edit.kind1;intro x hx;unfold ZaP at hx;split at hx
 ·rcases List.mem_append.1 hx with hx | hx
  ·exact h x hx
  ·simp at hx;subst hx;exact⟨rfl,ZO⟩
 ·split at hx
  ·exact h x (Zd8 (List.mem_filter.1 hx).1)
  ·split at hx
   ·split at hx
    ·rcases List.mem_append.1 hx with hx | hx
     ·exact h x (Zd8 hx)
     ·simp at hx;subst hx;exact⟨rfl,ZO⟩
    ·exact h x hx
   ·split at hx
    ·exact h x (Zd8 hx)
    ·split at hx
     ·rcases List.mem_append.1 hx with hx | hx
      ·exact h x (Zd8 hx)
      ·simp at hx;subst hx;exact⟨rfl,ZO⟩
     ·exact h x hx
theorem KInv.old(h:KInv K log)(k:ByteArray):RowK k ((ZaH K k).getD [])/\∀ x∈(ZaH K k).getD [],x∈log:=by
 cases hg:ZaH K k with
 | none=>exact⟨λ x hx=>(by simp at hx),λ x hx=>(by simp at hx)⟩
 | some l=>exact h.row _ ((Zs9 h.once).1 hg)
theorem KInv.apply(h:KInv K log)(he:e.Ok):KInv (applyN K e) (log++[e]):=by
 obtain⟨h1,h2⟩:=h.old e.key;unfold applyN;split
 ·exact⟨Ztk h.once,λ p hp=>⟨(h.row p ((Zs8 h.once).1 hp).2).1,λ x hx=>List.mem_append_left _ ((h.row p ((Zs8 h.once).1 hp).2).2 x hx)⟩⟩
 ·refine⟨Ztn h.once,λ p hp=>?_⟩;rcases(Ztb h.once).1 hp with ⟨e1,e2⟩|⟨_,hp⟩
  ·rw[e1,e2];refine⟨h1.a8 he,λ x hx=>?_⟩;rcases ZpV hx with hx | rfl
   ·exact List.mem_append_left _ (h2 x hx)
   ·simp
  ·exact⟨(h.row p hp).1,λ x hx=>List.mem_append_left _ ((h.row p hp).2 x hx)⟩
theorem KInv.fold:∀ {l:List Ev} {K:List (ByteArray × List Ev)} {log:List Ev},KInv K log->(∀ x∈l,x.Ok)->KInv (l.foldl applyN K) (log++l)
 | [],K,log,h,_=>by simpa using h
 | e::l,K,log,h,he=>by
  have:=KInv.fold (h.apply (he e ZM)) λ x hx=>he x (List.mem_cons_of_mem _ hx)
  simpa using this
theorem KInv.of(h:∀ x∈l,x.Ok):KInv (l.foldl applyN []) l:=by
 have:=KInv.fold (K:=[]) (log:=[]) ⟨ZM,ZM⟩ h;simpa using this
theorem KInv.mem(h:KInv K log){C:Con}:C∈listN K↔∃ p∈K,(∃ x∈p.2,x.kind=1)/\C=Zbd p.1 (ZcQ p.2 (ZcJ p.2)):=by
 unfold listN;rw[List.mem_flatMap];constructor
 ·rintro⟨k,hk,hC⟩;rw[Zs7] at hk;obtain⟨p,hp,rfl⟩:=List.mem_map.1 hk;rw[(Zs9 (x:=p.2) h.once).2 hp,Option.getD_some,Ztg] at hC;obtain⟨x,hx,rfl⟩:=hC;have hr:=(h.row p hp).1;obtain⟨h1,h2⟩:=hr.a6.1 hx;exact⟨p,hp,⟨x,h1,h2⟩,by rw[(hr x h1).1]⟩
 ·rintro⟨p,hp,⟨x,h1,h2⟩,rfl⟩;refine⟨p.1,Zs7.2 (List.mem_map_of_mem hp),?_⟩;rw[(Zs9 (x:=p.2) h.once).2 hp,Option.getD_some,Ztg];have hr:=(h.row p hp).1;exact⟨x,hr.a6.2 ⟨h1,h2⟩,by rw[(hr x h1).1]⟩
def Ztv(kind:Nat)(key:ByteArray)(label:Nat)(value:ByteArray)(cs:List Con):Prop :=
 (kind≠2->∃ C∈cs,C.key=key)/\∀ C∈cs,C.key=key->kind≠2/\(kind=3->(if label=0 then C.f0 else C.f1)=value)/\(kind=4->value∈if label=0 then C.s0 else C.s1)/\(kind=5->value ∉ if label=0 then C.s0 else C.s1)
theorem Zs4{kk:Nat}{f:Ev->Bool}{x:Ev}:x∈Zbn l e kk f↔x∈l/\(x.kind≠kk∨f x=false∨x.below e=false):=by
 unfold Zbn Zhr;rw[List.mem_filter]
 cases f x <;> cases x.below e <;> simp
theorem Ztq(h:KInv K log)(he:e.Ok)(hb:∀ a∈log,a.below e=true){L P:Nat}(hc:Zco L P (listN K) e.kind e.key e.label e.value=0):Ztv e.kind e.key e.label e.value (listN (applyN K e)):=by
 have h':=h.apply he;have h5:=he.edit.kind5;have h1:=he.edit.kind1;obtain⟨l0,bu⟩:∃ l,l=(ZaH K e.key).getD []:=⟨_,rfl⟩;obtain⟨cG,bw⟩:=h.old e.key;rw[←bu] at cG bw;have aq:∀ x∈l0,x.below e=true:=λ x hx=>hb x (bw x hx)
 have db:applyN K e=if (ZaP l0 e).length=0 then Zeb K e.key else Zei K e.key (ZaP l0 e):=by rw[bu];rfl
 have b5:=cG.a8 he;have hC:∀ C∈listN (applyN K e),C.key=e.key->(∃ x∈ZaP l0 e,x.kind=1)/\C=Zbd e.key (ZcQ (ZaP l0 e) (ZcJ (ZaP l0 e))):=λ C hC hk=>by
  obtain⟨p,hp,hx,rfl⟩:=h'.mem.1 hC;have bs:p.1=e.key:=hk;rw[db] at hp;split at hp
  ·exact absurd bs ((Zs8 h.once).1 hp).1
  ·rcases(Ztb h.once).1 hp with ⟨e1,e2⟩|⟨h1,_⟩
   ·rw[e2] at hx ⊢;exact⟨hx,by rw[bs]⟩
   ·exact absurd bs h1
 have hE:(∃ x∈ZaP l0 e,x.kind=1)->∃ C∈listN (applyN K e),C.key=e.key:=λ⟨x,hx,h1⟩=>by
  refine⟨Zbd e.key (ZcQ (ZaP l0 e) (ZcJ (ZaP l0 e))),h'.mem.2 ⟨(e.key,ZaP l0 e),?_,⟨x,hx,h1⟩,rfl⟩,rfl⟩;rw[db,if_neg (λ h0=>by rw[List.length_eq_zero_iff.1 h0] at hx;cases hx)];exact(Ztb h.once).2 (.inl ⟨rfl,rfl⟩)
 have bG:e.kind≠1->∃ x∈l0,x.kind=1:=λ hk=>by
  unfold Zco at hc;split at hc
  ·rw[if_neg hk] at hc;cases hc
  ·rename_i C hf;have hm:=List.mem_of_find?_eq_some hf;have aN:C.key=e.key:=by simpa using List.find?_some hf
   obtain⟨p,hp,hx,rfl⟩:=h.mem.1 hm;have dI:p.1=e.key:=aN;have hg:=(Zs9 h.once).2 (show(e.key,p.2)∈K by rw[←dI];exact hp);rw[bu,hg];exact hx
 have ak:(∃ x∈l0,x.kind=1)->Zcv l0 e=true:=λ⟨x,hx,h1⟩=>by
  unfold Zcv;rw[List.any_eq_true];exact⟨x,hx,by simp[h1,aq x hx]⟩
 have dh:∀ x∈ZaP l0 e,x.kind=1->x∈l0->ZbP (ZcJ (ZaP l0 e)) e=true:=λ x hx h1 h2=>by
  unfold ZbP;rw[List.any_eq_true];exact⟨x,b5.a6.2 ⟨hx,h1⟩,by simp[h1,ZdS,(cG x h2).1,aq x h2]⟩
 have bh:e.kind=1∨e.kind=2∨e.kind=3∨e.kind=4∨e.kind=5:=ZO;rcases bh with hk | hk | hk | hk | hk
 ·
  have hw:ZaP l0 e=l0++[e]:=by unfold ZaP;rw[if_pos hk]
  refine⟨λ _=>hE ⟨e,by rw[hw];simp,hk⟩,λ C _ _=>⟨ZO,ZO,ZO,ZO⟩⟩
 ·
  have hw:∀ x,x ∉ ZaP l0 e:=λ x hx=>by
   unfold ZaP Zf2 at hx;rw[if_neg ZO,if_pos hk,List.mem_filter] at hx;have hn:∀ y∈Zbn l0 e 1 (λ _=>true),y.kind≠1:=λ y hy=>by
    obtain⟨h1,h2⟩:=Zs4.1 hy;have:=aq y h1;simp[this] at h2;exact h2
   have aP:=hn x hx.1;have cb:=hx.2;simp only[aP,decide_false,Bool.false_or] at cb;unfold Zcv at cb;rw[List.any_eq_true] at cb;obtain⟨y,hy,dU⟩:=cb;simp[hn y hy] at dU
  refine⟨λ h=>absurd hk h,λ C h1 h2=>?_⟩;obtain⟨⟨x,hx,_⟩,_⟩:=hC C h1 h2;exact absurd hx (hw x)
 ·
  have hw:ZaP l0 e=Zbn l0 e 3 (ZdG e)++[e]:=by
   unfold ZaP;rw[if_neg ZO,if_neg ZO,if_pos hk,if_pos (ak (bG ZO))]
  obtain⟨x,hx,aP⟩:=bG ZO;have bq:x∈ZaP l0 e:=by rw[hw];exact List.mem_append_left _ (Zs4.2 ⟨hx,.inl ZO⟩)
  refine⟨λ _=>hE ⟨x,bq,aP⟩,λ C h1 h2=>⟨ZO,λ _=>?_,ZO,ZO⟩⟩;obtain⟨_,rfl⟩:=hC C h1 h2;have bL:=(he.edit.long ZO).1;have cK:Zm (ZcQ (ZaP l0 e) (ZcJ (ZaP l0 e))) e.key e.label=[e]:=by
   unfold Zm Zce ZcQ;obtain⟨P,hP⟩:∃ P,P=ZeY (ZaP l0 e) (ZcJ (ZaP l0 e)):=⟨_,rfl⟩;have h3:P e=true:=by
    rw[hP];unfold ZeY;rw[if_pos hk];exact dh x bq aP hx
   rw[←hP,hw,List.filter_filter,List.filter_filter,List.filter_append];have h0:(Zbn l0 e 3 (ZdG e)).filter (λ a=>decide (a.kind=3)&&(decide (a.key=e.key)&&decide (a.label=e.label))&&P a)=[]:=by
    rw[List.filter_eq_nil_iff];intro a ha;obtain⟨h3,h4⟩:=Zs4.1 ha;have:=aq a h3;simp only[this,Bool.true_eq_false,or_false,ZdG,decide_eq_false_iff_not] at h4;intro hh;simp only[Bool.and_eq_true,decide_eq_true_eq] at hh;rcases h4 with h4 | h4
    ·exact h4 hh.1.1
    ·exact h4 hh.1.2.2
   rw[h0];simp[h3,hk]
  have ai:Zck (ZcQ (ZaP l0 e) (ZcJ (ZaP l0 e))) e.key e.label=e.value:=by
   unfold Zck;rw[cK];have:Zlm (ZdJ [e])=0:=by
    unfold Zlm ZdJ;simp[ZfW,mx]
   rw[this];rfl
  rcases(by omega:e.label=0∨e.label=1) with hl | hl
  ·rw[if_pos hl];rw[hl] at ai;exact ai
  ·rw[if_neg ZO];rw[hl] at ai;exact ai
 ·
  have hw:ZaP l0 e=Zbn l0 e 4 (ZbY e)++[e]:=by
   unfold ZaP;rw[if_neg ZO,if_neg ZO,if_neg ZO,if_neg ZO,if_pos (ak (bG ZO))]
  obtain⟨x,hx,aP⟩:=bG ZO;have bq:x∈ZaP l0 e:=by rw[hw];exact List.mem_append_left _ (Zs4.2 ⟨hx,.inl ZO⟩)
  refine⟨λ _=>hE ⟨x,bq,aP⟩,λ C h1 h2=>⟨ZO,ZO,λ _=>?_,ZO⟩⟩;obtain⟨_,rfl⟩:=hC C h1 h2;have bL:=(he.edit.long ZO).1;have aG:e.value∈Zhy (ZcQ (ZaP l0 e) (ZcJ (ZaP l0 e))) e.key e.label :=
   Ztl.2 ⟨e,b5.counts.2 ⟨by rw[hw];simp,.inr hk,dh x bq aP hx⟩,rfl,rfl,ZO,rfl⟩
  rcases(by omega:e.label=0∨e.label=1) with hl | hl
  ·rw[if_pos hl];rw[hl] at aG;exact aG
  ·rw[if_neg ZO];rw[hl] at aG;exact aG
 ·
  have hw:ZaP l0 e=Zbn l0 e 4 (ZbY e):=by
   unfold ZaP;rw[if_neg ZO,if_neg ZO,if_neg ZO,if_pos hk]
  obtain⟨x,hx,aP⟩:=bG ZO;have bq:x∈ZaP l0 e:=by rw[hw];exact Zs4.2 ⟨hx,.inl ZO⟩
  refine⟨λ _=>hE ⟨x,bq,aP⟩,λ C h1 h2=>⟨ZO,ZO,ZO,λ _=>?_⟩⟩;obtain⟨_,rfl⟩:=hC C h1 h2;have bL:=(he.edit.long ZO).1;have aG:e.value ∉ Zhy (ZcQ (ZaP l0 e) (ZcJ (ZaP l0 e))) e.key e.label:=λ aG=>by
   obtain⟨y,hy,y1,y2,y3,y4⟩:=Ztl.1 aG;obtain⟨z1,z2,z3⟩:=b5.counts.1 hy;rw[hw] at z1;obtain⟨z4,z5⟩:=Zs4.1 z1;have:=aq y z4;simp only[this,Bool.true_eq_false,or_false,ZbY,y2,y4,decide_true,Bool.and_true] at z5;omega
  rcases(by omega:e.label=0∨e.label=1) with hl | hl
  ·rw[if_pos hl];rw[hl] at aG;exact aG
  ·rw[if_neg ZO];rw[hl] at aG;exact aG
end
end
section
section
variable {c:Cfg}{B B':Bd}{m b r k:Nat}{x y:WS}{s:St}{a:PN}
theorem NodeInv.a7(h:NodeInv c r B b a)(hr:r<5)(hb:tot B.made<=100)(hs:EditOk s.ek s.key s.label s.value):
  (∃ e:Ev,e.Ok/\a.s.up=true/\(Zep c r a s.ek s.key s.label s.value).2=0/\(Zep c r a s.ek s.key s.label s.value).1.s.up=true/\(Zep c r a s.ek s.key s.label s.value).1.s.log=a.s.log++[e]/\e.r=r /\
   Ztv s.ek s.key s.label s.value (listN (Zep c r a s.ek s.key s.label s.value).1.s.book)) ∨
  ((Zep c r a s.ek s.key s.label s.value).2=18/\(Zep c r a s.ek s.key s.label s.value).1.s.up=false) ∨
  ((Zep c r a s.ek s.key s.label s.value).2≠0/\(Zep c r a s.ek s.key s.label s.value).1.s=a.s):=by
 unfold Zep ZdZ;simp only;by_cases hu:a.s.up=true
 ·rw[if_pos hu];by_cases hk:Zco c.l c.p (listN a.s.book) s.ek s.key s.label s.value=0
  ·rw[if_pos hk];by_cases hw:a.s.wait.length<c.q
   ·rw[if_pos hw];have ay:=h.made hu hr hb hs;have hl:=h.log hu;obtain⟨e,bI⟩:∃ e,e=madeEv r a.s s.ek s.key s.label s.value:=⟨_,rfl⟩;rw[←bI] at ay ⊢;have de:=ZcF a.s (Zae r e);by_cases h0:(ZS a.s (Zae r e)).2=0
    ·rw[if_pos h0];have b8:(ZS a.s (Zae r e)).1.up=true:=by
      unfold ZS at h0 ⊢;split
      ·exact hu
      ·rename_i h1;rw[if_neg h1] at h0;cases h0
     refine .inl ⟨e,ay,hu,rfl,b8,?_,by rw[bI];rfl,?_⟩
     ·unfold ZiI ZcR;simp only[de.1]
     ·have hK:=KInv.of hl.ok;rw[←(h.up hu).book] at hK;have aq:∀ y∈a.s.log,y.below e=true:=λ y hy=>by
       have h1:=(hl.row y.r).mem (Zjl.2 ⟨hy,rfl⟩);have h2:e.ctx=a.s.clk:=by rw[bI];rfl
       unfold Ev.below Clk.has;rw[h2,h.clk hu];unfold cnt;exact decide_eq_true ⟨h1.1,ZO⟩
      have bf:Zco c.l c.p (listN a.s.book) e.kind e.key e.label e.value=0:=by rw[bI];exact hk
      have:=Ztq hK ay aq bf;have e1:(ZiI (ZS a.s (Zae r e)).1 e).book=applyN a.s.book e:=by
       unfold ZiI ZcR;simp only[de.2.2.1,List.foldl_cons,List.foldl_nil]
      rw[e1];rw[bI] at this ⊢;exact this
    ·rw[if_neg h0];refine .inr (.inl ⟨(ZfC _ _).resolve_left h0,?_⟩);unfold ZS at h0 ⊢;split
     ·rename_i h1;rw[if_pos h1] at h0;exact absurd rfl h0
     ·rfl
   ·rw[if_neg hw];exact .inr (.inr ⟨ZM,rfl⟩)
  ·rw[if_neg hk];exact .inr (.inr ⟨hk,rfl⟩)
 ·rw[if_neg hu];exact .inr (.inr ⟨ZM,rfl⟩)
theorem NodeInv.aa(h:NodeInv c r B b a){f:Frm}(hf:NodeFrm c B r f)(hu:a.s.up=true)(_aj:(Zbf c r a f).1.s.up=true):
  (Zbf c r a f).1.s.log=a.s.log∨((Zbf c r a f).2=0/\∃ l,l≠[]/\(∀ e∈l,e.r≠r)/\(Zbf c r a f).1.s.log=a.s.log++l):=by
 unfold Zbf at _aj ⊢;rw[if_pos hu] at _aj ⊢;split
 ·refine .inl ?_;unfold Zhu Zc9;simp only;split
  ·rfl
  ·split
   ·exact(ZcF _ _).1
   ·exact(ZcF _ _).1
 ·rename_i hk;rw[if_neg hk] at _aj;unfold Zhq Zc8 at _aj ⊢;simp only at _aj ⊢;split
  ·exact .inl rfl
  ·rename_i h1;rw[if_neg h1] at _aj;split
   ·exact .inl rfl
   ·rename_i h2;rw[if_neg h2] at _aj;obtain⟨rec,cI⟩:∃ rec,rec=ZaN r (drained a.s.clk (a.s.held++f.events)).1:=⟨_,rfl⟩;rw[←cI] at _aj ⊢;split
    ·refine .inr ⟨rfl,_,h2,λ e he=>?_,?_⟩
     ·have hm:=(ZgB _ _).2 e he;rcases List.mem_append.1 hm with hm | hm
      ·exact((h.up hu).held e hm).ne
      ·exact(hf.evs e hm).ne
     ·unfold ZcR;simp only[(ZcF (ZcM a.s f.events) rec).1];rfl
    ·rename_i h3;exact .inl (ZcF _ _).1
def Grew(x x':WS)(s:St)(ae:Nat)(r0:Nat):Prop :=
 (∀ r,r≠r0->x'.nodes r=x.nodes r)/\((x.nodes r0).s.up=true->(x'.nodes r0).s.up=true->(x'.nodes r0).s.log=(x.nodes r0).s.log ∨
  (ae=0/\((s.kind=0/\s.r=r0/\∃ e:Ev,e.r=r0/\(x'.nodes r0).s.log=(x.nodes r0).s.log++[e]) ∨
   ((s.kind=4∨s.kind=5∨s.kind=7)/\∃ l:List Ev,l≠[]/\(∀ e∈l,e.r≠r0)/\(x'.nodes r0).s.log=(x.nodes r0).s.log++l))))
theorem Grew.none{x':WS}{ae r0:Nat}(h:x'.nodes=x.nodes):Grew x x' s ae r0:=by
 unfold Grew;rw[h];exact⟨λ _ _=>rfl,λ _ _ => .inl rfl⟩
theorem Grew.set{h:PH}{l:List (Nat × Frm)}{ae r0:Nat}{y:PN}(hg:(x.nodes r0).s.up=true->y.s.up=true->y.s.log=(x.nodes r0).s.log ∨
  (ae=0/\((s.kind=0/\s.r=r0/\∃ e:Ev,e.r=r0/\y.s.log=(x.nodes r0).s.log++[e]) ∨
   ((s.kind=4∨s.kind=5∨s.kind=7)/\∃ l:List Ev,l≠[]/\(∀ e∈l,e.r≠r0)/\y.s.log=(x.nodes r0).s.log++l)))):Grew x ⟨Zch x.nodes r0 y,h,l⟩ s ae r0:=by
 unfold Grew;simp only[Zdj];exact⟨λ r hr=>Zcp hr,hg⟩
theorem WInv.a9(h:WInv c B m b x)(hc:c.Ok)(hm:m<=99)(hs:StOk c s):∃ r0,Grew x (Zab c x s).1 s (Zab c x s).2 r0:=by
 have h5:=hc.n5;have ht:tot B.made<=100:=ZT h.sum ZO;unfold Zab;split
 ·unfold ZcH;split
  ·exact⟨0,Grew.none rfl⟩
  ·split
   ·exact⟨0,Grew.none rfl⟩
   ·rename_i p hp;split
    ·exact⟨0,Grew.none rfl⟩
    ·split
     ·exact⟨0,Grew.none rfl⟩
     ·unfold Zb8;split
      ·rename_i hk _ h6 _ hn;refine⟨p.1,Grew.set λ hu aj=>?_⟩;have hg:NodeFrm c B p.1 p.2:=by
        rcases h.link p (ZY hp) with ⟨_,h⟩|⟨h,_⟩
        ·exact h
        ·omega
       rcases(h.nodes _ hn).aa hg hu aj with h1 | ⟨h1,l,h2,h3,h4⟩
       ·exact .inl h1
       ·exact .inr ⟨h1,.inr ⟨ZO,l,h2,h3,h4⟩⟩
      ·exact⟨0,Grew.none rfl⟩
 ·split
  ·unfold ZbL;split
   ·split
    ·exact⟨s.r,Grew.set λ _ aj=>by simp[Zdf] at aj⟩
    ·split
     ·refine⟨s.r,Grew.set λ hu aj=>?_⟩;unfold ZbS;rw[if_pos hu];exact .inl rfl
     ·exact⟨s.r,Grew.set λ _ _ => .inl rfl⟩
   ·split
    ·split
     ·exact⟨0,Grew.none rfl⟩
     ·split <;> exact⟨0,Grew.none rfl⟩
    ·exact⟨0,Grew.none rfl⟩
  ·split
   ·exact⟨0,Grew.none rfl⟩
   ·rename_i hr;have dQ:s.r<c.n:=by simpa using hr
    split
    ·rename_i ax;refine⟨s.r,Grew.set λ hu aj=>?_⟩;rcases(h.nodes _ dQ).a7 (s:=s) (c:=c) ZO ht hs.edit with ⟨e,h1,h2,h3,h4,h5,h6,h7⟩|⟨h1,h2⟩|⟨h1,h2⟩
     ·exact .inr ⟨h3,.inl ⟨ax,rfl,e,h6,h5⟩⟩
     ·rw[h2] at aj;cases aj
     ·rw[h2];exact .inl rfl
    ·split
     ·refine⟨s.r,Grew.set λ hu aj => .inl ?_⟩;unfold Zc7 Zfj;rw[if_pos hu];exact(ZcF _ _).1
     ·unfold Zgn;split <;> exact⟨0,Grew.none rfl⟩
end
end
section
structure Loc(own:Own)(w:World)(b:Nat)(c:Cfg)(k:Nat)(v:Value)(ss:List St):Prop where
 blk:Blk w b 23 (Zal c)
 mine:own b=0
 row:∃ B,w.ownsRow B 36 10 v ss.length (ss.flatMap stL)
 loose:∀ g,v.ownBlock=some g->own g=k
section
variable {own own':Own}{t p q b k:Nat}{w0 wr w':World}{c:Cfg}{B:Bd}{x:WS}{v:Value}{ss:List St}{s:St}{T:Nat->Prop}
theorem Loc.upd(h:Loc own wr b c k v ss)(hu:Upd T own own' wr w')(h0:¬ T 0)(hk:¬ T k):Loc own' w' b c k v ss:=by
 obtain⟨B,hr⟩:=h.row;refine⟨h.blk.upd hu (by rw[h.mine];exact h0),(hu.old _ h.blk.lt).trans h.mine,⟨B,Zh hr λ g hg hl=>hu.same g hl (by rw[h.loose g hg];exact hk)⟩,λ g hg=>(hu.old g (Zb hr hg).2).trans (h.loose g hg)⟩
theorem Loc.below(h:Loc own wr b c k v ss)(hf:Fresh own wr)(hb:Below wr.heap.size wr w'):Loc own w' b c k v ss:=h.upd (ZUb (T:=λ _=>False) hb hf) (λ h=>h) (λ h=>h)
theorem ZtD{α : Type}{L : α -> List Value}(hL:∀ x,(L x).length=10):∀ (ss:List α) (q:Nat) (s : α),ss[q]? = some s->∀ j u,(L s)[j]? = some u->(ss.flatMap L)[q*10+j]? = some u:=by
 intro ss
 induction ss with
 | nil=>intro q s h;simp at h
 | cons x ss ih =>
  intro q s h j u hj;have hl:=hL x;rw[List.flatMap_cons]
  cases q with
  | zero =>
   simp at h;subst h;have:j<10:=by rw[←hl];exact(ZZ.1 hj).1
   rw[List.getElem?_append_left (by rw[hl];omega),Nat.zero_mul,Nat.zero_add];exact hj
  | succ q =>
   rw[List.getElem?_append_right (by rw[hl];omega),hl,show(q+1)*10+j-10=q*10+j by omega];exact ih q s (by simpa using h) j u hj
theorem Loc.step(h:Loc own wr b c k v ss)(hq:ss[q]? = some s):∃ g cap,v = .slice (some ⟨g,0,none⟩) ss.length cap/\g<wr.heap.size/\∀ j u,(stL s)[j]? = some u->wr.cell? ⟨g,q*10+j,none⟩=some u:=by
 have dN:q<ss.length:=(ZZ.1 hq).1;obtain⟨B,hr⟩:=h.row;obtain⟨a,cap,rfl⟩:=Zs hr;obtain⟨g,rfl,bJ,hc⟩:=Zby hr ZO;refine⟨g,cap,rfl,bJ,λ j u hj=>?_⟩;have h1:=ZtD (L:=stL) (λ _=>rfl) ss q s hq j u hj;exact(hc _ (ZZ.1 h1).1).trans h1
theorem Loc.slice(h:Loc own wr b c k v ss):∃ a cap,v = .slice a ss.length cap:=by
 obtain⟨B,hr⟩:=h.row;exact Zs hr
theorem Loc.make(hb:Blk wr b 23 (Zal c))(ho:own b=0)(hf:Fresh own wr)(hr:w'.ownsRow wr.heap.size 36 10 v ss.length (ss.flatMap stL))(aq:Below wr.heap.size wr w'):Loc own w' b c 0 v ss :=
 ⟨hb.ob aq,ho,⟨_,hr⟩,λ g hg=>hf g (Zb hr hg).1⟩
theorem Ztx(n:Nat)(ss:List RawSt):(Zs5 n ss).length<=60:=by unfold Zs5;rw[List.length_map,ZV];omega
theorem Zty{ss:List RawSt}(hc:c.Ok)(h:∀ s∈ss,RawOk s):∀ s∈Zs5 c.n ss,StOk c s:=by
 intro s hs;unfold Zs5 at hs;obtain⟨r,hr,rfl⟩:=List.mem_map.1 hs;exact Ztu hc (h r (List.mem_of_mem_take hr))
end
end
section
abbrev SV:=SiteN × Value × Value
def siteL(q:SV):List Value:=[.bool q.1.up,.int .i64 q.1.clk.c0,.int .i64 q.1.clk.c1,.int .i64 q.1.clk.c2,.int .i64 q.1.clk.c3,.int .i64 q.1.clk.c4,.int .i64 q.1.sent,q.2.1,q.2.2]
structure SiteRows(B:Nat)(w:World)(v:Value)(l:List SV):Prop where
 row:w.ownsRow B 47 9 v l.length (l.flatMap siteL)
 held:∀ q∈l,MarkRow B w q.2.1 q.1.held
 log:∀ q∈l,MarkRow B w q.2.2 q.1.log
section
variable {B:Nat}{w w':World}{v:Value}{l:List SV}
theorem SiteRows.below(h:SiteRows B w v l)(hb:Below w.heap.size w w'):SiteRows B w' v l :=
 ⟨Ze h.row hb,λ q hq=>Ze (h.held q hq) hb,λ q hq=>Ze (h.log q hq) hb⟩
theorem SiteRows.push{v7:Value}{s:SV}(h:SiteRows B w v l)(hg:w.grownBy w' v.ownBlock)(hr:w'.ownsRow B 47 9 v7 (l.length+1) (l.flatMap siteL++siteL s))(h0:MarkRow B w s.2.1 s.1.held)(h1:MarkRow B w s.2.2 s.1.log):SiteRows B w' v7 (l++[s]):=by
 refine⟨by rw[List.flatMap_append,ZI];simpa using hr,λ p hp=>?_,λ p hp=>?_⟩
 ·rcases List.mem_append.1 hp with hp | hp
  ·exact ZaX (h.held p hp) hg (Zbs (h.held p hp) h.row ZJ)
  ·obtain rfl:p=s:=by simpa using hp
   exact ZaX h0 hg (Zbs h0 h.row ZJ)
 ·rcases List.mem_append.1 hp with hp | hp
  ·exact ZaX (h.log p hp) hg (Zbs (h.log p hp) h.row ZJ)
  ·obtain rfl:p=s:=by simpa using hp
   exact ZaX h1 hg (Zbs h1 h.row ZJ)
theorem SiteRows.upd{T:Nat->Prop}{own own':Own}(h:SiteRows B w v l)(hB:∀ g,B<=g->own g=0)(hu:Upd T own own' w w')(h0:¬ T 0):SiteRows B w' v l:=by
 have hk:∀ {e:TypeId} {sz n:Nat} {u:Value} {xs:List Value},w.ownsRow B e sz u n xs->w'.ownsRow B e sz u n xs:=λ h=>Zh h λ g hg hl=>hu.same g hl (by rw[hB g (Zb h hg).1];exact h0)
 exact⟨hk h.row,λ q hq=>hk (h.held q hq),λ q hq=>hk (h.log q hq)⟩
theorem ZtH{α : Type}{L : α -> List Value}(hL:∀ x,(L x).length=9):∀ (ss:List α) (q:Nat) (s : α),ss[q]? = some s->∀ j u,(L s)[j]? = some u->(ss.flatMap L)[q*9+j]? = some u:=by
 intro ss
 induction ss with
 | nil=>intro q s h;simp at h
 | cons x ss ih =>
  intro q s h j u hj;have hl:=hL x;rw[List.flatMap_cons]
  cases q with
  | zero =>
   simp at h;subst h;have:j<9:=by rw[←hl];exact(ZZ.1 hj).1
   rw[List.getElem?_append_left (by rw[hl];omega),Nat.zero_mul,Nat.zero_add];exact hj
  | succ q =>
   rw[List.getElem?_append_right (by rw[hl];omega),hl,show(q+1)*9+j-9=q*9+j by omega];exact ih q s (by simpa using h) j u hj
theorem SiteRows.at_(h:SiteRows B w v l){q:Nat}{s:SV}(hq:l[q]? = some s):∃ g cap,v = .slice (some ⟨g,0,none⟩) l.length cap/\g<w.heap.size/\B<=g/\∀ j u,(siteL s)[j]? = some u->w.cell? ⟨g,q*9+j,none⟩=some u:=by
 have dN:q<l.length:=(ZZ.1 hq).1;have hr:=h.row;obtain⟨a,cap,rfl⟩:=Zs hr;obtain⟨g,rfl,bJ,hc⟩:=Zby hr ZO;refine⟨g,cap,rfl,bJ,(Zb hr (g:=g) rfl).1,λ j u hj=>?_⟩;have h1:=ZtH (L:=siteL) (λ _=>rfl) l q s hq j u hj;exact(hc _ (ZZ.1 h1).1).trans h1
end
theorem ZtB:(prog.info? 47).map (λ i=>(i.zero,i.size,i.bytes))=some (some (.agg #[.bool false,.int .i64 0,.int .i64 0,.int .i64 0,.int .i64 0,.int .i64 0,.int .i64 0,.slice none 0 0,.slice none 0 0]),9,104):=ZK
section
variable {own:Own}{t p m b:Nat}{w:World}{c:Cfg}{B:Bd}{x:WS}
theorem Zti(h:WorldAt own t w p c x)(hf:Fresh own w)(hi:WInv c B m b x)(hc:c.Ok)(hm:m<=100):
  Calls prog 22 #[ptrV p,.int .i64 c.n] w λ e w'=>∃ v l,e = .returned v/\SiteRows w.heap.size w' v l/\l.map (·.1)=(List.range c.n).map (λ r=>Zbz (x.nodes r).s)/\Below w.heap.size w w':=by
 obtain⟨i0,dG,cM,bV,cN⟩:=info_parts ZtB;have h5:=hc.n5;have HS:=ZH (λ W (hw:Below w.heap.size w W) r (hr:r<c.n)=>Zjg (h.upd (ZUb (T:=λ _=>False) hw hf) (λ _ _ h=>h) (λ h=>h) h5) (ZUb (T:=λ _=>False) hw hf).fresh hi hc hm hr);have HO:Hid (SiteRows w.heap.size (w.alloc (.cells #[] 47)) (.slice (some ⟨w.heap.size,0,none⟩) 0 0) []):=ZH ⟨Zth w 47 9,ZM,ZM⟩;have HK:=ZH ((ZKr w).alloc (.cells #[] 47));have HM:Hid (([]:List SV).map (·.1)=(List.range 0).map (λ r=>Zbz (x.nodes r).s)):=ZH rfl;clear h hf hi hc hm;go_enter func22,ntmps22;go_wp2_with fail;go_loopw [5,6] (λ v i wr=>∃ (q:Nat) (l:List SV),q<=c.n/\i = .int .i64 q/\Hid (SiteRows w.heap.size wr v l)/\Hid (l.map (·.1)=(List.range q).map (λ r=>Zbz (x.nodes r).s))/\Hid (Kept w.heap.size w wr)) (λ _ i _=>c.n-(intOf i).toNat)
 case atStart=>exact⟨0,[],ZO,rfl,HO,HM,HK⟩
 case round =>
  clear HO HK HM;obtain⟨q,l,hq,rfl,HO,HM,HK⟩:=hrel;have di:l.length=q:=by
   have:=congrArg List.length HM.out;simpa using this
  obtain⟨av,cv,rfl⟩:=Zs HO.out.row;by_cases bN:q<c.n
  ·have cg:=ZH di;go_wp2_with fail;refine(HS.out wr HK.out.below q bN).mono ?_;rintro _ w1 ⟨vh,vl,rfl,b9,ca,ab⟩;obtain⟨S,hS⟩:∃ S,S=Zbz (x.nodes q).s:=⟨_,rfl⟩;rw[←hS] at b9 ca ⊢;have bT:=b9;have bU:=ca;obtain⟨ah,ch,rfl⟩:=Zs b9;obtain⟨al,cl,rfl⟩:=Zs ca;have bR:w.heap.size<=wr.heap.size:=HK.out.le;have bM:=HO.out.below ab;have bK:=HK.out.step ab;have bA:=ZH (bM.below (((ZKr w1).alloc (.cells (Zx S.up S.clk S.sent (.slice ah S.held.length ch) (.slice al S.log.length cl)) 47)).below));have aN:=bK.alloc (.cells (Zx S.up S.clk S.sent (.slice ah S.held.length ch) (.slice al S.log.length cl)) 47);obtain⟨du,dv⟩:=ZH2 (Ze (bT.mono bR) (((ZKr w1).alloc (.cells (Zx S.up S.clk S.sent (.slice ah S.held.length ch) (.slice al S.log.length cl)) 47)).below)) (Ze (bU.mono bR) (((ZKr w1).alloc (.cells (Zx S.up S.clk S.sent (.slice ah S.held.length ch) (.slice al S.log.length cl)) 47)).below));have ci:Hid (Reads (w1.alloc (.cells (Zx S.up S.clk S.sent (.slice ah S.held.length ch) (.slice al S.log.length cl)) 47)) _ 9 (some ⟨w1.heap.size,0,none⟩) 1 (siteL (S,.slice ah S.held.length ch,.slice al S.log.length cl))):=ZH (Reads.ao (ZBn w1 47 _) rfl);have aY:=aN.le;obtain⟨dz,aC⟩:=ZH2 hS aN
   have bb:Hid (∀ u∈siteL (S,.slice ah S.held.length ch,.slice al S.log.length cl),u.oneCell'=true):=ZH (λ u hu=>by
    simp[siteL] at hu
    rcases hu with rfl | rfl | rfl | rfl | rfl | rfl | rfl | rfl | rfl <;> rfl)
   have aI:=bA.out.row;rw[cg.out] at aI ⊢;have cV:=ZH aI;clear ab b9 ca bT bU bM bK aN hS aI bR
   go_wp2_with (first
    |(at_builtin
      refine Zc _ rfl (.tmp 13) (.tmp 17) _ rfl w.heap.size 47 i0 _ 9 104 underlying52 dG cM bV cN rfl ZO (.slice av q cv) q (l.flatMap siteL) rfl cV.out _ (some ⟨w1.heap.size,0,none⟩) 1 1 (siteL (S,.slice ah S.held.length ch,.slice al S.log.length cl)) rfl ci.out bb.out ZF ZO aY ?_;intro v7 w7 ag aX _;have cf:Hid (Kept w.heap.size w w7):=ZH (⟨aC.out.below.grown aX aC.out.le (λ g hg=>(Zb cV.out hg).1),ZT aC.out.le aX.size⟩);obtain⟨dB,dt⟩:=ZH2 ag aX
      clear ag aX ))
   go_roundw
   case rel =>
    have dR:SiteRows w.heap.size w7 v7 (l++[(S,.slice ah S.held.length ch,.slice al S.log.length cl)]):=by
     refine bA.out.push (by rw[cg.out];exact dt.out) ?_ du.out dv.out;rw[cg.out];exact dB.out
    exact⟨q+1,_,ZO,ZN,ZH dR,ZH (by rw[List.map_append,HM.out,List.range_succ,List.map_append,dz.out];rfl),cf⟩
   case measure=>simp[intOf];omega
  ·obtain rfl:q=c.n:=ZO;go_wp2
   go_ret;exact⟨_,l,rfl,by rw[←di] at *;exact HO.out,HM.out,HK.out.below⟩
end
end
end Go.Proofs.YtjkfognelhiepaaGreat
