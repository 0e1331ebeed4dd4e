import Derived.Test.YtjkfognelhiepaaGreatC28
namespace Go.Proofs.YtjkfognelhiepaaGreat
open Go.RowKit _root_.Go.Proofs.Tryz
set_option maxRecDepth 100000
set_option maxHeartbeats 8000000
def Zs3(s:RawSt):Nat:=(Zle s.kind 12).toNat
def Zs6(n:Nat)(s:RawSt):Nat:=if (Zle s.r (n+1)).toNat=n then(if Zs3 s<8∨Zs3 s=11 then 0 else 5) else(Zle s.r (n+1)).toNat
def Zs1(n:Nat)(s:RawSt):St:=⟨Zs3 s,Zs6 n s,ZcX s.ek,Zd0 (Zej s.key s.key.size),Zg3 (ZcX s.ek) s.label,ZeG (ZcX s.ek) s.value,s.at_,s.bit,s.mask.toNat,s.keep,false⟩
theorem Zs5(s:RawSt):Zs3 s<=11:=by
 have h:=Zns s.kind (k:=12) ZO;unfold Zs3;omega
theorem Ztu{c:Cfg}(hc:c.Ok)(s:RawSt):Zs6 c.n s<c.n∨Zs6 c.n s=5/\8<=Zs3 s/\Zs3 s<=10:=by
 have h:=Zns s.r (k:=c.n+1) ZO;have hk:=Zs5 s;have h1:=hc.n1;unfold Zs6;split
 ·split
  ·exact .inl ZO
  ·exact .inr ⟨rfl,ZO,ZO⟩
 ·exact .inl ZO
theorem Ztp{c:Cfg}(hc:c.Ok){s:RawSt}(hs:RawOk s):StOk c (Zs1 c.n s):=by
 refine⟨Zs5 s,?_,ZsV _ _ _ _,?_⟩
 ·rcases Ztu hc s with h | h
  ·exact .inl h
  ·exact .inr h.1
 ·show s.mask.toNat<4294967296
  have:=hs.mask0;have:=hs.mask;omega
abbrev Zs2(s:St):Array Value:=#[.int .i64 s.kind,.int .i64 s.r,.int .i64 s.ek,.string s.key,.int .i64 s.label,.string s.value,.int .i64 s.at_,.int .i64 s.bit,.int .u32 s.mask,.int .i64 s.keep]
abbrev Ztx(s:St):Value := .agg (Zs2 s)
theorem Blk.a7{w:World}{g:Nat}{ty:TypeId}{v0 v1 v2 v3 v4 v5 v6 v7 v8 v9:Value}(h:Blk w g ty #[v0,v1,v2,v3,v4,v5,v6,v7,v8,v9]):w.cell? ⟨g,0,none⟩=some v0/\w.cell? ⟨g,1,none⟩=some v1/\w.cell? ⟨g,2,none⟩=some v2/\w.cell? ⟨g,3,none⟩=some v3/\w.cell? ⟨g,4,none⟩=some v4/\w.cell? ⟨g,5,none⟩=some v5/\w.cell? ⟨g,6,none⟩=some v6/\w.cell? ⟨g,7,none⟩=some v7/\w.cell? ⟨g,8,none⟩=some v8/\w.cell? ⟨g,9,none⟩=some v9 :=
 ⟨h.cell 0,h.cell 1,h.cell 2,h.cell 3,h.cell 4,h.cell 5,h.cell 6,h.cell 7,h.cell 8,h.cell 9⟩
theorem ZtG(s:RawSt)(n:Nat)(h1:1<=n)(h5:n<=5)(hs:RawOk s)(w:World):
  Calls prog 31 #[.agg #[.int .i64 s.kind,.int .i64 s.r,.int .i64 s.ek,.string s.key,.int .i64 s.label,.string s.value,.int .i64 s.at_,.int .i64 s.bit,.int .u32 s.mask,.int .i64 s.keep],.int .i64 n] w (Zv (Ztx (Zs1 n s)) w):=by
 have hb:=(ZBn w 36 #[.int .i64 s.kind,.int .i64 s.r,.int .i64 s.ek,.string s.key,.int .i64 s.label,.string s.value,.int .i64 s.at_,.int .i64 s.bit,.int .u32 s.mask,.int .i64 s.keep]).alloc (.cells #[.int .i64 0,.int .i64 0,.int .i64 0,.string ByteArray.empty,.int .i64 0,.string ByteArray.empty,.int .i64 0,.int .i64 0,.int .u32 0,.int .i64 0] 36);obtain⟨c0,c1,c2,c3,c4,c5,c6,c7,c8,c9⟩:=hb.a7;have hl:=hb.lt;clear hb;have df:(wrap64 (s.kind.tmod 12+12)).tmod 12=(Zs3 s:Int):=ZsW s.kind ZO ZO;obtain⟨R,hR⟩:∃ R,R=(Zle s.r (n+1)).toNat:=⟨_,rfl⟩;have dM:(wrap64 (wrap64 (s.r.tmod ((n:Int)+1)+(n:Int))+1)).tmod ((n:Int)+1)=(R:Int):=by
  rw[hR,←ZsW s.r ZO ZO];have b1:=Int.tmod_lt_of_pos s.r (show 0<(n:Int)+1 by omega);have b2 : -((n:Int)+1)<s.r.tmod ((n:Int)+1):=by
   have:=Int.tmod_lt_of_pos (-s.r) (show 0<(n:Int)+1 by omega);rw[Int.neg_tmod] at this;omega
  generalize s.r.tmod ((n:Int)+1)=z at *;have e:wrap64 (wrap64 (z+(n:Int))+1)=wrap64 (z+((n:Int)+1)):=by unfold wrap64;omega
  rw[e]
 have cw:=Zs5 s;have de:Zs6 n s=if R=n then(if Zs3 s<8∨Zs3 s=11 then 0 else 5) else R:=by rw[hR];rfl
 have aV:=ZH de;obtain⟨K,hK⟩:∃ K,K=Zs3 s:=⟨_,rfl⟩;rw[←hK] at df cw aV;obtain⟨cc,HKW,HRW⟩:=ZH3 hK df dM;have hRn:R<=n:=by
  have:=Zns s.r (k:=(n:Int)+1) ZO;omega
 clear hK de hR;have aI:=ZH (ZsZ s.ek s.key s.label s.value · hs.key hs.value);go_enter func31,ntmps31;by_cases hr:R=n
 ·by_cases h8:K<8
  ·obtain⟨bp,ci⟩:=ZH2 hr h8;go_wp2_with fail;have al:=(ZBn w 36 #[.int .i64 (K:Int),.int .i64 0,.int .i64 s.ek,.string s.key,.int .i64 s.label,.string s.value,.int .i64 s.at_,.int .i64 s.bit,.int .u32 s.mask,.int .i64 s.keep]).alloc (.cells #[.int .i64 0,.int .i64 0,.int .i64 0,.string ⟨#[]⟩,.int .i64 0,.string ⟨#[]⟩,.int .i64 0,.int .i64 0,.int .u32 0,.int .i64 0] 36);have af:=ZBn (w.alloc (.cells #[.int .i64 (K:Int),.int .i64 0,.int .i64 s.ek,.string s.key,.int .i64 s.label,.string s.value,.int .i64 s.at_,.int .i64 s.bit,.int .u32 s.mask,.int .i64 s.keep] 36)) 36 #[.int .i64 0,.int .i64 0,.int .i64 0,.string ⟨#[]⟩,.int .i64 0,.string ⟨#[]⟩,.int .i64 0,.int .i64 0,.int .u32 0,.int .i64 0];rw[World.size_alloc] at af;have aD:=((ZKr w).alloc (.cells #[.int .i64 (K:Int),.int .i64 0,.int .i64 s.ek,.string s.key,.int .i64 s.label,.string s.value,.int .i64 s.at_,.int .i64 s.bit,.int .u32 s.mask,.int .i64 s.keep] 36)).alloc (.cells #[.int .i64 0,.int .i64 0,.int .i64 0,.string ⟨#[]⟩,.int .i64 0,.string ⟨#[]⟩,.int .i64 0,.int .i64 0,.int .u32 0,.int .i64 0] 36);refine(aI.out _).mono ?_;generalize (w.alloc (.cells #[.int .i64 (K:Int),.int .i64 0,.int .i64 s.ek,.string s.key,.int .i64 s.label,.string s.value,.int .i64 s.at_,.int .i64 s.bit,.int .u32 s.mask,.int .i64 s.keep] 36)).alloc (.cells #[.int .i64 0,.int .i64 0,.int .i64 0,.string ⟨#[]⟩,.int .i64 0,.string ⟨#[]⟩,.int .i64 0,.int .i64 0,.int .u32 0,.int .i64 0] 36)=W at *;rintro _ w1 ⟨rfl,hb⟩;obtain⟨HB,HK⟩:=ZH2 (af.ob hb) (aD.step hb);have hc:=al.ob hb;clear al af aD hb;obtain⟨c0,c1,c2,c3,c4,c5,c6,c7,c8,c9⟩:=hc.a7;have hl:=hc.lt;have hf:=λ i=>hc.frozen i
   obtain⟨d0,d1,d2,d3,d4,d5,d6,d7,d8,d9⟩:=HB.out.a7;have ag:=HB.out.lt;have cy:=λ i=>HB.out.frozen i
   clear hc;go_wp2_with fail;have br:Zs6 n s=0:=by rw[aV.out];rw[if_pos bp.out,if_pos (.inl ci.out)]
   have aw:=Zaw (vs:=Zs2 ⟨K,0,ZcX s.ek,Zd0 (Zej s.key s.key.size),Zg3 (ZcX s.ek) s.label,ZeG (ZcX s.ek) s.value,s.at_,s.bit,s.mask.toNat,s.keep,false⟩) ((Zaj (show w.heap.size+1≠w.heap.size by omega) [.int .i64 (ZcX s.ek:Int),.string (Zd0 (Zej s.key s.key.size)),.int .i64 (Zg3 (ZcX s.ek) s.label:Int),.string (ZeG (ZcX s.ek) s.value)] 2 w1).trans HB.out) rfl;have bF:=ZaB (ZaB HK.out (g:=w.heap.size) (ZL _) 2 [.int .i64 (ZcX s.ek:Int),.string (Zd0 (Zej s.key s.key.size)),.int .i64 (Zg3 (ZcX s.ek) s.label:Int),.string (ZeG (ZcX s.ek) s.value)]) (g:=w.heap.size+1) ZO 0 (Zs2 ⟨K,0,ZcX s.ek,Zd0 (Zej s.key s.key.size),Zg3 (ZcX s.ek) s.label,ZeG (ZcX s.ek) s.value,s.at_,s.bit,s.mask.toNat,s.keep,false⟩).toList;have bG:s.mask=((s.mask.toNat:Nat):Int):=by have:=hs.mask0;omega
   have e:Zs1 n s=⟨K,0,ZcX s.ek,Zd0 (Zej s.key s.key.size),Zg3 (ZcX s.ek) s.label,ZeG (ZcX s.ek) s.value,s.at_,s.bit,s.mask.toNat,s.keep,false⟩:=by unfold Zs1;rw[br,←cc.out]
   rw[e];rw[bG];refine bodyPost_ret (Zac rfl rfl (run_loadVar_row _ _ _ _ _ _ _ aw underlying36 rfl ZK)) rfl ?_;exact⟨rfl,bF.below⟩
  ·by_cases au:K=11
   focus
    obtain⟨bp,be⟩:=ZH2 hr au;have cx:((K:Int)==11)=true:=by rw[au];rfl
    clear au;go_wp2_with fail;have al:=(ZBn w 36 #[.int .i64 (K:Int),.int .i64 0,.int .i64 s.ek,.string s.key,.int .i64 s.label,.string s.value,.int .i64 s.at_,.int .i64 s.bit,.int .u32 s.mask,.int .i64 s.keep]).alloc (.cells #[.int .i64 0,.int .i64 0,.int .i64 0,.string ⟨#[]⟩,.int .i64 0,.string ⟨#[]⟩,.int .i64 0,.int .i64 0,.int .u32 0,.int .i64 0] 36);have af:=ZBn (w.alloc (.cells #[.int .i64 (K:Int),.int .i64 0,.int .i64 s.ek,.string s.key,.int .i64 s.label,.string s.value,.int .i64 s.at_,.int .i64 s.bit,.int .u32 s.mask,.int .i64 s.keep] 36)) 36 #[.int .i64 0,.int .i64 0,.int .i64 0,.string ⟨#[]⟩,.int .i64 0,.string ⟨#[]⟩,.int .i64 0,.int .i64 0,.int .u32 0,.int .i64 0];rw[World.size_alloc] at af;have aD:=((ZKr w).alloc (.cells #[.int .i64 (K:Int),.int .i64 0,.int .i64 s.ek,.string s.key,.int .i64 s.label,.string s.value,.int .i64 s.at_,.int .i64 s.bit,.int .u32 s.mask,.int .i64 s.keep] 36)).alloc (.cells #[.int .i64 0,.int .i64 0,.int .i64 0,.string ⟨#[]⟩,.int .i64 0,.string ⟨#[]⟩,.int .i64 0,.int .i64 0,.int .u32 0,.int .i64 0] 36);refine(aI.out _).mono ?_;generalize (w.alloc (.cells #[.int .i64 (K:Int),.int .i64 0,.int .i64 s.ek,.string s.key,.int .i64 s.label,.string s.value,.int .i64 s.at_,.int .i64 s.bit,.int .u32 s.mask,.int .i64 s.keep] 36)).alloc (.cells #[.int .i64 0,.int .i64 0,.int .i64 0,.string ⟨#[]⟩,.int .i64 0,.string ⟨#[]⟩,.int .i64 0,.int .i64 0,.int .u32 0,.int .i64 0] 36)=W at *;rintro _ w1 ⟨rfl,hb⟩;obtain⟨HB,HK⟩:=ZH2 (af.ob hb) (aD.step hb);have hc:=al.ob hb;clear al af aD hb;obtain⟨c0,c1,c2,c3,c4,c5,c6,c7,c8,c9⟩:=hc.a7;have hl:=hc.lt;have hf:=λ i=>hc.frozen i
    obtain⟨d0,d1,d2,d3,d4,d5,d6,d7,d8,d9⟩:=HB.out.a7;have ag:=HB.out.lt;have cy:=λ i=>HB.out.frozen i
    clear hc;go_wp2_with fail;have br:Zs6 n s=0:=by rw[aV.out];rw[if_pos bp.out,if_pos (.inr be.out)]
    have aw:=Zaw (vs:=Zs2 ⟨K,0,ZcX s.ek,Zd0 (Zej s.key s.key.size),Zg3 (ZcX s.ek) s.label,ZeG (ZcX s.ek) s.value,s.at_,s.bit,s.mask.toNat,s.keep,false⟩) ((Zaj (show w.heap.size+1≠w.heap.size by omega) [.int .i64 (ZcX s.ek:Int),.string (Zd0 (Zej s.key s.key.size)),.int .i64 (Zg3 (ZcX s.ek) s.label:Int),.string (ZeG (ZcX s.ek) s.value)] 2 w1).trans HB.out) rfl;have bF:=ZaB (ZaB HK.out (g:=w.heap.size) (ZL _) 2 [.int .i64 (ZcX s.ek:Int),.string (Zd0 (Zej s.key s.key.size)),.int .i64 (Zg3 (ZcX s.ek) s.label:Int),.string (ZeG (ZcX s.ek) s.value)]) (g:=w.heap.size+1) ZO 0 (Zs2 ⟨K,0,ZcX s.ek,Zd0 (Zej s.key s.key.size),Zg3 (ZcX s.ek) s.label,ZeG (ZcX s.ek) s.value,s.at_,s.bit,s.mask.toNat,s.keep,false⟩).toList;have bG:s.mask=((s.mask.toNat:Nat):Int):=by have:=hs.mask0;omega
    have e:Zs1 n s=⟨K,0,ZcX s.ek,Zd0 (Zej s.key s.key.size),Zg3 (ZcX s.ek) s.label,ZeG (ZcX s.ek) s.value,s.at_,s.bit,s.mask.toNat,s.keep,false⟩:=by unfold Zs1;rw[br,←cc.out]
   rotate_left
   focus
    obtain⟨bp,be,ci⟩:=ZH3 hr au h8;have cx:((K:Int)==11)=false:=ZP;go_wp2_with fail;have al:=(ZBn w 36 #[.int .i64 (K:Int),.int .i64 5,.int .i64 s.ek,.string s.key,.int .i64 s.label,.string s.value,.int .i64 s.at_,.int .i64 s.bit,.int .u32 s.mask,.int .i64 s.keep]).alloc (.cells #[.int .i64 0,.int .i64 0,.int .i64 0,.string ⟨#[]⟩,.int .i64 0,.string ⟨#[]⟩,.int .i64 0,.int .i64 0,.int .u32 0,.int .i64 0] 36);have af:=ZBn (w.alloc (.cells #[.int .i64 (K:Int),.int .i64 5,.int .i64 s.ek,.string s.key,.int .i64 s.label,.string s.value,.int .i64 s.at_,.int .i64 s.bit,.int .u32 s.mask,.int .i64 s.keep] 36)) 36 #[.int .i64 0,.int .i64 0,.int .i64 0,.string ⟨#[]⟩,.int .i64 0,.string ⟨#[]⟩,.int .i64 0,.int .i64 0,.int .u32 0,.int .i64 0];rw[World.size_alloc] at af;have aD:=((ZKr w).alloc (.cells #[.int .i64 (K:Int),.int .i64 5,.int .i64 s.ek,.string s.key,.int .i64 s.label,.string s.value,.int .i64 s.at_,.int .i64 s.bit,.int .u32 s.mask,.int .i64 s.keep] 36)).alloc (.cells #[.int .i64 0,.int .i64 0,.int .i64 0,.string ⟨#[]⟩,.int .i64 0,.string ⟨#[]⟩,.int .i64 0,.int .i64 0,.int .u32 0,.int .i64 0] 36);refine(aI.out _).mono ?_;generalize (w.alloc (.cells #[.int .i64 (K:Int),.int .i64 5,.int .i64 s.ek,.string s.key,.int .i64 s.label,.string s.value,.int .i64 s.at_,.int .i64 s.bit,.int .u32 s.mask,.int .i64 s.keep] 36)).alloc (.cells #[.int .i64 0,.int .i64 0,.int .i64 0,.string ⟨#[]⟩,.int .i64 0,.string ⟨#[]⟩,.int .i64 0,.int .i64 0,.int .u32 0,.int .i64 0] 36)=W at *;rintro _ w1 ⟨rfl,hb⟩;obtain⟨HB,HK⟩:=ZH2 (af.ob hb) (aD.step hb);have hc:=al.ob hb;clear al af aD hb;obtain⟨c0,c1,c2,c3,c4,c5,c6,c7,c8,c9⟩:=hc.a7;have hl:=hc.lt;have hf:=λ i=>hc.frozen i
    obtain⟨d0,d1,d2,d3,d4,d5,d6,d7,d8,d9⟩:=HB.out.a7;have ag:=HB.out.lt;have cy:=λ i=>HB.out.frozen i
    clear hc;go_wp2_with fail;have br:Zs6 n s=5:=by rw[aV.out];rw[if_pos bp.out,if_neg (λ h=>h.elim ci.out be.out)]
    have aw:=Zaw (vs:=Zs2 ⟨K,5,ZcX s.ek,Zd0 (Zej s.key s.key.size),Zg3 (ZcX s.ek) s.label,ZeG (ZcX s.ek) s.value,s.at_,s.bit,s.mask.toNat,s.keep,false⟩) ((Zaj (show w.heap.size+1≠w.heap.size by omega) [.int .i64 (ZcX s.ek:Int),.string (Zd0 (Zej s.key s.key.size)),.int .i64 (Zg3 (ZcX s.ek) s.label:Int),.string (ZeG (ZcX s.ek) s.value)] 2 w1).trans HB.out) rfl;have bF:=ZaB (ZaB HK.out (g:=w.heap.size) (ZL _) 2 [.int .i64 (ZcX s.ek:Int),.string (Zd0 (Zej s.key s.key.size)),.int .i64 (Zg3 (ZcX s.ek) s.label:Int),.string (ZeG (ZcX s.ek) s.value)]) (g:=w.heap.size+1) ZO 0 (Zs2 ⟨K,5,ZcX s.ek,Zd0 (Zej s.key s.key.size),Zg3 (ZcX s.ek) s.label,ZeG (ZcX s.ek) s.value,s.at_,s.bit,s.mask.toNat,s.keep,false⟩).toList;have bG:s.mask=((s.mask.toNat:Nat):Int):=by have:=hs.mask0;omega
    have e:Zs1 n s=⟨K,5,ZcX s.ek,Zd0 (Zej s.key s.key.size),Zg3 (ZcX s.ek) s.label,ZeG (ZcX s.ek) s.value,s.at_,s.bit,s.mask.toNat,s.keep,false⟩:=by unfold Zs1;rw[br,←cc.out]
   rotate_left
   all_goals
    rw[e];rw[bG];refine bodyPost_ret (Zac rfl rfl (run_loadVar_row _ _ _ _ _ _ _ aw underlying36 rfl ZK)) rfl ?_;exact⟨rfl,bF.below⟩
 ·have bp:=ZH hr;have hbr:((R:Int)==(n:Int))=false:=ZP;go_wp2_with fail;have al:=(ZBn w 36 #[.int .i64 (K:Int),.int .i64 (R:Int),.int .i64 s.ek,.string s.key,.int .i64 s.label,.string s.value,.int .i64 s.at_,.int .i64 s.bit,.int .u32 s.mask,.int .i64 s.keep]).alloc (.cells #[.int .i64 0,.int .i64 0,.int .i64 0,.string ⟨#[]⟩,.int .i64 0,.string ⟨#[]⟩,.int .i64 0,.int .i64 0,.int .u32 0,.int .i64 0] 36);have af:=ZBn (w.alloc (.cells #[.int .i64 (K:Int),.int .i64 (R:Int),.int .i64 s.ek,.string s.key,.int .i64 s.label,.string s.value,.int .i64 s.at_,.int .i64 s.bit,.int .u32 s.mask,.int .i64 s.keep] 36)) 36 #[.int .i64 0,.int .i64 0,.int .i64 0,.string ⟨#[]⟩,.int .i64 0,.string ⟨#[]⟩,.int .i64 0,.int .i64 0,.int .u32 0,.int .i64 0];rw[World.size_alloc] at af;have aD:=((ZKr w).alloc (.cells #[.int .i64 (K:Int),.int .i64 (R:Int),.int .i64 s.ek,.string s.key,.int .i64 s.label,.string s.value,.int .i64 s.at_,.int .i64 s.bit,.int .u32 s.mask,.int .i64 s.keep] 36)).alloc (.cells #[.int .i64 0,.int .i64 0,.int .i64 0,.string ⟨#[]⟩,.int .i64 0,.string ⟨#[]⟩,.int .i64 0,.int .i64 0,.int .u32 0,.int .i64 0] 36);refine(aI.out _).mono ?_;generalize (w.alloc (.cells #[.int .i64 (K:Int),.int .i64 (R:Int),.int .i64 s.ek,.string s.key,.int .i64 s.label,.string s.value,.int .i64 s.at_,.int .i64 s.bit,.int .u32 s.mask,.int .i64 s.keep] 36)).alloc (.cells #[.int .i64 0,.int .i64 0,.int .i64 0,.string ⟨#[]⟩,.int .i64 0,.string ⟨#[]⟩,.int .i64 0,.int .i64 0,.int .u32 0,.int .i64 0] 36)=W at *;rintro _ w1 ⟨rfl,hb⟩;obtain⟨HB,HK⟩:=ZH2 (af.ob hb) (aD.step hb);have hc:=al.ob hb;clear al af aD hb;obtain⟨c0,c1,c2,c3,c4,c5,c6,c7,c8,c9⟩:=hc.a7;have hl:=hc.lt;have hf:=λ i=>hc.frozen i
  obtain⟨d0,d1,d2,d3,d4,d5,d6,d7,d8,d9⟩:=HB.out.a7;have ag:=HB.out.lt;have cy:=λ i=>HB.out.frozen i
  clear hc;go_wp2_with fail;have br:Zs6 n s=R:=by rw[aV.out];rw[if_neg bp.out]
  have aw:=Zaw (vs:=Zs2 ⟨K,R,ZcX s.ek,Zd0 (Zej s.key s.key.size),Zg3 (ZcX s.ek) s.label,ZeG (ZcX s.ek) s.value,s.at_,s.bit,s.mask.toNat,s.keep,false⟩) ((Zaj (show w.heap.size+1≠w.heap.size by omega) [.int .i64 (ZcX s.ek:Int),.string (Zd0 (Zej s.key s.key.size)),.int .i64 (Zg3 (ZcX s.ek) s.label:Int),.string (ZeG (ZcX s.ek) s.value)] 2 w1).trans HB.out) rfl;have bF:=ZaB (ZaB HK.out (g:=w.heap.size) (ZL _) 2 [.int .i64 (ZcX s.ek:Int),.string (Zd0 (Zej s.key s.key.size)),.int .i64 (Zg3 (ZcX s.ek) s.label:Int),.string (ZeG (ZcX s.ek) s.value)]) (g:=w.heap.size+1) ZO 0 (Zs2 ⟨K,R,ZcX s.ek,Zd0 (Zej s.key s.key.size),Zg3 (ZcX s.ek) s.label,ZeG (ZcX s.ek) s.value,s.at_,s.bit,s.mask.toNat,s.keep,false⟩).toList;have bG:s.mask=((s.mask.toNat:Nat):Int):=by have:=hs.mask0;omega
  have e:Zs1 n s=⟨K,R,ZcX s.ek,Zd0 (Zej s.key s.key.size),Zg3 (ZcX s.ek) s.label,ZeG (ZcX s.ek) s.value,s.at_,s.bit,s.mask.toNat,s.keep,false⟩:=by unfold Zs1;rw[br,←cc.out]
  rw[e];rw[bG];refine bodyPost_ret (Zac rfl rfl (run_loadVar_row _ _ _ _ _ _ _ aw underlying36 rfl ZK)) rfl ?_;exact⟨rfl,bF.below⟩
def stL(s:St):List Value:=(Zs2 s).toList
def Zs4(n:Nat)(ss:List RawSt):List St:=(ss.take 60).map (Zs1 n)
theorem ZtB:(prog.info? 36).map (λ i=>(i.zero,i.size,i.bytes))=some (some (.agg #[.int .i64 0,.int .i64 0,.int .i64 0,.string ByteArray.empty,.int .i64 0,.string ByteArray.empty,.int .i64 0,.int .i64 0,.int .u32 0,.int .i64 0]),10,96):=ZK
theorem Ztf(w:World)(e:TypeId)(sz:Nat):(w.alloc (.cells #[] e)).ownsRow w.heap.size e sz (.slice (some ⟨w.heap.size,0,none⟩) 0 0) 0 [] :=
 ⟨ZM,.inr ⟨w.heap.size,0,#[],rfl,ZL _,heap_alloc_new w _,ZL _,by simp[maxLen],ZM,ZM⟩⟩
theorem Ztt{w:World}{a:Option Addr}{n cap N:Nat}{ss:List RawSt}(hr:Reads w w.heap.size 10 a n (ss.flatMap Zdi))(hn:n=ss.length)(aQ:∀ s∈ss,RawOk s)(h1:1<=N)(h5:N<=5)(bU:n<9223372036854775807):
  Calls prog 13 #[.slice a n cap,.int .i64 N] w λ e w'=>∃ v,e = .returned v/\w'.ownsRow w.heap.size 36 10 v (Zs4 N ss).length ((Zs4 N ss).flatMap stL)/\Below w.heap.size w w':=by
 obtain⟨i0,hi,dW,cO,dX⟩:=info_parts ZtB;obtain⟨HR,HN,ac⟩:=ZH3 hr hn aQ;have HO:Hid ((w.alloc (.cells #[] 36)).ownsRow w.heap.size 36 10 (.slice (some ⟨w.heap.size,0,none⟩) 0 0) 0 (((ss.take 0).map (Zs1 N)).flatMap stL)):=ZH (Ztf w 36 10);have HK:=ZH ((ZKr w).alloc (.cells #[] 36));have hm:min n 60<=n:=Nat.min_le_left _ _;clear hr hn aQ;go_enter func13,ntmps13;go_wp2_with fail;go_loopw [5,6] (λ v i wr=>∃ q:Nat,q<=n/\q<=60/\i = .int .i64 q/\Hid (wr.ownsRow w.heap.size 36 10 v q (((ss.take q).map (Zs1 N)).flatMap stL))/\Hid (Kept w.heap.size w wr)) (λ _ i _=>n-(intOf i).toNat)
 case atStart=>exact⟨0,ZO,ZO,rfl,HO,HK⟩
 case round =>
  clear HO HK;obtain⟨q,hq,hq6,rfl,HO,HK⟩:=hrel;obtain⟨av,cv,rfl⟩:=Zs HO.out;by_cases bc:q<n
  ·by_cases hq60:q<60
   ·obtain⟨s,he⟩:∃ s,ss[q]? = some s:=⟨_,ZX (by rw[←HN.out];exact bc)⟩;have bE:=ZH (ac.out s (ZY he));obtain⟨bk,off,rfl,dh,hc⟩:=ZsX (HR.out.below HK.out.below) HN.out he;have c0:=hc 0 _ rfl;have c1:=hc 1 _ rfl;have c2:=hc 2 _ rfl;have c3:=hc 3 _ rfl;have c4:=hc 4 _ rfl;have c5:=hc 5 _ rfl;have c6:=hc 6 _ rfl;have c7:=hc 7 _ rfl;have c8:=hc 8 _ rfl;have c9:=hc 9 _ rfl;simp only[Nat.add_zero] at c0;have du:((ss.take (q+1)).map (Zs1 N)).flatMap stL=((ss.take q).map (Zs1 N)).flatMap stL++stL (Zs1 N s):=by
     rw[List.take_add_one,he];simp
    have dI:=ZH du;clear he du hc;go_wp2_with fail;refine(ZtG s N h1 h5 bE.out wr).mono ?_;rintro _ w1 ⟨rfl,af⟩;have dj:=HK.out.step af;have dp:=Ze HO.out af;have cZ:=ZH (dp.alloc (.cells (Zs2 (Zs1 N s)) 36));have cA:=dj.alloc (.cells (Zs2 (Zs1 N s)) 36);have dG:Hid (Reads (w1.alloc (.cells (Zs2 (Zs1 N s)) 36)) _ 10 (some ⟨w1.heap.size,0,none⟩) 1 (stL (Zs1 N s))):=ZH (Reads.ao (ZBn w1 36 _) rfl);have dR:=cA.le;have ah:=ZH cA
    have cn:Hid (∀ u∈stL (Zs1 N s),u.oneCell'=true):=ZH (λ u hu=>by
     simp[stL] at hu
     rcases hu with rfl | rfl | rfl | rfl | rfl | rfl | rfl | rfl | rfl | rfl <;> rfl)
    clear af dj dp cA c0 c1 c2 c3 c4 c5 c6 c7 c8 c9
    go_wp2_with (first
     |(at_builtin
       refine Zc _ rfl (.tmp 18) (.tmp 25) _ rfl w.heap.size 36 i0 _ 10 96 underlying24 hi dW cO dX rfl ZO (.slice av q cv) q (((ss.take q).map (Zs1 N)).flatMap stL) rfl cZ.out _ (some ⟨w1.heap.size,0,none⟩) 1 1 (stL (Zs1 N s)) rfl dG.out cn.out ZF ZO dR ?_;intro v7 w7 aF cz _;rw[←dI.out] at aF;have dE:Hid (Kept w.heap.size w w7):=ZH (⟨ah.out.below.grown cz ah.out.le (λ g hg=>(Zb cZ.out hg).1),ZT ah.out.le cz.size⟩);have dF:=ZH aF
       clear aF cz ))
    go_roundw
    case rel=>exact⟨q+1,ZO,ZO,ZN,dF,dE⟩
    case measure=>simp[intOf];omega
   ·obtain rfl:q=60:=ZO;go_wp2
    go_ret;refine⟨_,rfl,?_,HK.out.below⟩;have e:(Zs4 N ss).length=60:=by unfold Zs4;rw[List.length_map,ZV];have:=HN.out;omega
    rw[e];exact HO.out
  ·obtain rfl:q=n:=ZO;go_wp2
   go_ret;refine⟨_,rfl,?_,HK.out.below⟩;have e:(Zs4 N ss).length=q:=by unfold Zs4;rw[List.length_map,ZV];have:=HN.out;omega
   have e2:ss.take q=ss.take 60:=by rw[ZU (by have:=HN.out;omega),ZU (by have:=HN.out;omega)]
   rw[e];rw[show Zs4 N ss=(ss.take q).map (Zs1 N) from by rw[e2];rfl];exact HO.out
section
section
variable {c:Cfg}{B B':Bd}{m b r k:Nat}{x y:WS}{s:St}{a:PN}
theorem Ztg(hk:¬ (4<=s.kind/\s.kind<=7))(h0:s.r≠0):(Zab c x s).1.nodes 0=x.nodes 0:=by
 have hs:∀ y,Zch x.nodes s.r y 0=x.nodes 0:=λ y=>Zcp (λ e=>h0 e.symm)
 unfold Zab;rw[if_neg hk];split
 ·unfold ZbL;split
  ·split
   ·exact hs _
   ·split <;> exact hs _
  ·split
   ·split
    ·rfl
    ·split <;> rfl
   ·rfl
 ·split
  ·rfl
  ·split
   ·exact hs _
   ·split
    ·exact hs _
    ·unfold Zgn;split <;> rfl
theorem Ztn(hk:¬ (4<=s.kind/\s.kind<=7))(h0:s.r=0)(hn:0<c.n)(he:x.nodes 0=y.nodes 0):(Zab c x s).1.nodes 0=(Zab c y s).1.nodes 0/\(Zab c x s).2=(Zab c y s).2:=by
 have hs:∀ (u v:PN) (a b:PH) (l m:List (Nat × Frm)),u=v->(⟨Zch x.nodes 0 u,a,l⟩:WS).nodes 0=(⟨Zch y.nodes 0 v,b,m⟩:WS).nodes 0:=λ u v a b l m h=>by simp only[Zdj];exact h
 have hr:s.r<c.n:=ZO;unfold Zab;rw[if_neg hk,if_neg hk];by_cases h8:8<=s.kind/\s.kind<=10
 ·rw[if_pos h8,if_pos h8];unfold ZbL;rw[if_pos hr,if_pos hr,h0,he];by_cases h1:s.kind=8
  ·rw[if_pos h1,if_pos h1];exact⟨hs _ _ _ _ _ _ rfl,rfl⟩
  ·rw[if_neg h1,if_neg h1];by_cases h2:s.kind=9
   ·rw[if_pos h2,if_pos h2];exact⟨hs _ _ _ _ _ _ rfl,rfl⟩
   ·rw[if_neg h2,if_neg h2];exact⟨hs _ _ _ _ _ _ rfl,rfl⟩
 ·rw[if_neg h8,if_neg h8,if_neg (show ¬ ¬ s.r<c.n by omega),if_neg (show ¬ ¬ s.r<c.n by omega),h0,he];by_cases h1:s.kind=0
  ·rw[if_pos h1,if_pos h1];exact⟨hs _ _ _ _ _ _ rfl,rfl⟩
  ·rw[if_neg h1,if_neg h1];by_cases h2:s.kind=11
   ·rw[if_pos h2,if_pos h2];exact⟨hs _ _ _ _ _ _ rfl,rfl⟩
   ·rw[if_neg h2,if_neg h2];unfold Zgn;split
    ·exact⟨he,rfl⟩
    ·exact⟨he,rfl⟩
end
end
section
structure Loc(own:Own)(w:World)(b:Nat)(c:Cfg)(k:Nat)(v:Value)(ss:List St):Prop where
 blk:Blk w b 23 (Zal c)
 mine:own b=0
 row:∃ B,w.ownsRow B 36 10 v ss.length (ss.flatMap stL)
 loose:∀ g,v.ownBlock=some g->own g=k
section
variable {own own':Own}{t p q b k:Nat}{w0 wr w':World}{c:Cfg}{B:Bd}{x:WS}{v:Value}{ss:List St}{s:St}{T:Nat->Prop}
theorem Loc.upd(h:Loc own wr b c k v ss)(hu:Upd T own own' wr w')(h0:¬ T 0)(hk:¬ T k):Loc own' w' b c k v ss:=by
 obtain⟨B,hr⟩:=h.row;refine⟨h.blk.upd hu (by rw[h.mine];exact h0),(hu.old _ h.blk.lt).trans h.mine,⟨B,Zh hr λ g hg hl=>hu.same g hl (by rw[h.loose g hg];exact hk)⟩,λ g hg=>(hu.old g (Zb hr hg).2).trans (h.loose g hg)⟩
theorem Loc.below(h:Loc own wr b c k v ss)(hf:Fresh own wr)(hb:Below wr.heap.size wr w'):Loc own w' b c k v ss:=h.upd (ZUb (T:=λ _=>False) hb hf) (λ h=>h) (λ h=>h)
theorem ZtA{α : Type}{L : α -> List Value}(hL:∀ x,(L x).length=10):∀ (ss:List α) (q:Nat) (s : α),ss[q]? = some s->∀ j u,(L s)[j]? = some u->(ss.flatMap L)[q*10+j]? = some u:=by
 intro ss
 induction ss with
 | nil=>intro q s h;simp at h
 | cons x ss ih =>
  intro q s h j u hj;have hl:=hL x;rw[List.flatMap_cons]
  cases q with
  | zero =>
   simp at h;subst h;have:j<10:=by rw[←hl];exact(ZZ.1 hj).1
   rw[List.getElem?_append_left (by rw[hl];omega),Nat.zero_mul,Nat.zero_add];exact hj
  | succ q =>
   rw[List.getElem?_append_right (by rw[hl];omega),hl,show(q+1)*10+j-10=q*10+j by omega];exact ih q s (by simpa using h) j u hj
theorem Loc.step(h:Loc own wr b c k v ss)(hq:ss[q]? = some s):∃ g cap,v = .slice (some ⟨g,0,none⟩) ss.length cap/\g<wr.heap.size/\∀ j u,(stL s)[j]? = some u->wr.cell? ⟨g,q*10+j,none⟩=some u:=by
 have cF:q<ss.length:=(ZZ.1 hq).1;obtain⟨B,hr⟩:=h.row;obtain⟨a,cap,rfl⟩:=Zs hr;obtain⟨g,rfl,aN,hc⟩:=Zby hr ZO;refine⟨g,cap,rfl,aN,λ j u hj=>?_⟩;have h1:=ZtA (L:=stL) (λ _=>rfl) ss q s hq j u hj;exact(hc _ (ZZ.1 h1).1).trans h1
theorem Loc.slice(h:Loc own wr b c k v ss):∃ a cap,v = .slice a ss.length cap:=by
 obtain⟨B,hr⟩:=h.row;exact Zs hr
theorem Loc.make(hb:Blk wr b 23 (Zal c))(ho:own b=0)(hf:Fresh own wr)(hr:w'.ownsRow wr.heap.size 36 10 v ss.length (ss.flatMap stL))(dh:Below wr.heap.size wr w'):Loc own w' b c 0 v ss :=
 ⟨hb.ob dh,ho,⟨_,hr⟩,λ g hg=>hf g (Zb hr hg).1⟩
theorem Ztr(n:Nat)(ss:List RawSt):(Zs4 n ss).length<=60:=by unfold Zs4;rw[List.length_map,ZV];omega
theorem Zts{ss:List RawSt}(hc:c.Ok)(h:∀ s∈ss,RawOk s):∀ s∈Zs4 c.n ss,StOk c s:=by
 intro s hs;unfold Zs4 at hs;obtain⟨r,hr,rfl⟩:=List.mem_map.1 hs;exact Ztp hc (h r (List.mem_of_mem_take hr))
end
end
theorem ZtF:prog.underlying 161=some (.struct (prog.fieldsOf 161)):=ZK
theorem Ztw:prog.stoodInHeld 161=false:=ZK
theorem Ztv:((prog.fieldsOf 161).toList.map λ f=>(f.name == "_",f.type,f.offset))=[(false,3,0),(false,3,1)]:=ZK
theorem Ztq(d a b a' b':Nat)(w:World):(Op.equalIn (d+1+1) 161 (.agg #[.int .i64 (a:Int),.int .i64 (b:Int)]) (.agg #[.int .i64 (a':Int),.int .i64 (b':Int)])).run prog w = .ok (decide (a=a'/\b=b'/\True)) w:=by
 rw[run_equalIn_struct w _ _ _ _ ZtF Ztw];refine Zcw Ztv (Zeh w (v := .int .i64 (a:Int)) rfl) (Zeh w (v := .int .i64 (a':Int)) rfl) (Zlc _ _ _ w) λ fs1 h1=>?_
 refine Zcw h1 (Zeh w (v := .int .i64 (b:Int)) rfl) (Zeh w (v := .int .i64 (b':Int)) rfl) (Zlc _ _ _ w) λ fs2 h2=>Zjp h2
theorem Ztk(a b:Nat)(w:World):(Op.equalIn 10000 161 (.agg #[.int .i64 (a:Int),.int .i64 (b:Int)]) (.agg #[.int .i64 (a:Int),.int .i64 (b:Int)])).run prog w = .ok true w:=by
 rw[show 10000=9998+1+1 from rfl,Ztq];simp
theorem Zs8:∀ (l:List (Nat × Nat)) (q:Nat) (p:Nat × Nat),l[q]? = some p->(ZcS l)[q*2]? = some (.int .i64 (p.1:Int))/\(ZcS l)[q*2+1]? = some (.int .i64 (p.2:Int))
 | [],q,p,h=>by simp at h
 | x::l,0,p,h=>by
  simp at h;subst h;exact⟨rfl,rfl⟩
 | x::l,q+1,p,h=>by
  have ih:=Zs8 l q p (by simpa using h);have e:ZcS (x::l) = .int .i64 (x.1:Int) :: .int .i64 (x.2:Int)::ZcS l:=rfl;rw[e,show(q+1)*2=q*2+1+1 by omega,show q*2+1+1+1=(q*2+1)+1+1 by omega];simpa using ih
theorem Ztc{w:World}{B:Nat}{a:Option Addr}{c:Nat}{es:List Ev}(h:MarkRow B w (.slice a es.length c) es){q:Nat}{p:Nat × Nat}(hq:(ZdP es)[q]? = some p):
  ∃ g,a=some ⟨g,0,none⟩/\g<w.heap.size/\w.cell? ⟨g,q*2,none⟩=some (.int .i64 (p.1:Int))/\w.cell? ⟨g,q*2+1,none⟩=some (.int .i64 (p.2:Int)):=by
 have hl:q<es.length:=by
  have:=(ZZ.1 hq).1;simpa [ZdP] using this
 obtain⟨g,hg,aN,hc⟩:=Zby h ZO;have h2:=Zs8 _ _ _ hq;exact⟨g,hg,aN,(hc _ (ZZ.1 h2.1).1).trans h2.1,(hc _ (ZZ.1 h2.2).1).trans h2.2⟩
theorem Zs9{w:World}{B n sz:Nat}{e:TypeId}{v:Value}{xs:List Value}(h:w.ownsRow B e sz v n xs):n<=9223372036854775807:=by
 rcases h.2 with ⟨_,h0⟩|⟨_,c0,_,_,_,_,h1,h2,_⟩
 ·omega
 ·simp only[maxLen] at h2;omega
theorem Zta{w:World}{B1 B2:Nat}{a b:Value}{es fs:List Ev}(ha:MarkRow B1 w a es)(hb:MarkRow B2 w b fs)(h:ZdP es=ZdP fs):
  Calls prog 42 #[a,b] w (Zv (.bool true) w):=by
 have hn:=Zs9 ha;have hl:fs.length=es.length:=by
  have:=congrArg List.length h;simpa [ZdP] using this.symm
 obtain⟨aa,ca,rfl⟩:=Zs ha;obtain⟨ab,cb,rfl⟩:=Zs hb;obtain⟨HA,HB,HM,HK⟩:=ZH4 ha hb h (ZKr w);obtain⟨n,aP⟩:∃ n,n=es.length:=⟨_,rfl⟩;obtain⟨HN,HL⟩:=ZH2 aP hl;rw[hl,←aP];rw[←aP] at hn;clear ha hb h hl aP;have hne:=Ztk;go_enter func42,ntmps42;go_wp2_with fail;go_loopw [5] (λ i wr=>∃ q:Nat,q<=n/\i = .int .i64 q/\Hid (Kept w.heap.size w wr)) (λ i _=>n-(intOf i).toNat)
 case atStart=>exact⟨0,ZO,rfl,HK⟩
 case round =>
  clear HK;obtain⟨q,hq,rfl,HK⟩:=hrel;by_cases bc:q<n
  ·obtain⟨p,hp⟩:∃ p,(ZdP es)[q]? = some p:=⟨_,ZX (by simp only[ZdP,List.length_map];rw[←HN.out];exact bc)⟩;obtain⟨g1,rfl,bt,a0,a1⟩:=Ztc HA.out hp;obtain⟨g2,rfl,bu,b0,b1⟩:=Ztc (by rw[←HL.out] at *;exact HB.out) (show(ZdP fs)[q]? = some p by rw[←HM.out];exact hp);rw[←HK.out.cells g1 _ bt] at a0 a1;rw[←HK.out.cells g2 _ bu] at b0 b1;have ai:g1<wr.heap.size:=ZR bt HK.out.le;have ag:g2<wr.heap.size:=ZR bu HK.out.le;clear hp bt bu;go_wp2_with fail;go_quiet (fail)
   go_wp2
   go_roundw
   case rel=>exact⟨q+1,ZO,ZN,HK.out.drewN _⟩
   case measure=>simp[intOf];omega
  ·obtain rfl:q=n:=ZO;go_wp2
   go_ret;exact⟨rfl,HK.out.below⟩
theorem Zto(a:Clk)(w:World):(Op.equalIn 10000 44 (.agg #[.int .i64 (a.c0:Int),.int .i64 (a.c1:Int),.int .i64 (a.c2:Int),.int .i64 (a.c3:Int),.int .i64 (a.c4:Int)]) (.agg #[.int .i64 (a.c0:Int),.int .i64 (a.c1:Int),.int .i64 (a.c2:Int),.int .i64 (a.c3:Int),.int .i64 (a.c4:Int)])).run prog w = .ok true w:=by
 rw[show 10000=9998+1+1 from rfl];refine(ZaO a a 9998 w).trans ?_;simp
theorem Ztm{w:World}{B1 B2 B3 B4:Nat}{vh vl vh' dB:Value}{hs ls bJ bL:List Ev}(u:Bool)(c:Clk)(sent:Nat)
  (h1:MarkRow B1 w vh hs) (h2:MarkRow B2 w vl ls) (h3:MarkRow B3 w vh' bJ) (h4:MarkRow B4 w dB bL) (e1:ZdP hs=ZdP bJ) (e2:ZdP ls=ZdP bL) :
  Calls prog 17 #[Zhz u c sent vh vl,Zhz u c sent vh' dB] w (Zv (.bool true) w):=by
 obtain⟨a1,c1,rfl⟩:=Zs h1;obtain⟨a2,c2,rfl⟩:=Zs h2;obtain⟨a3,c3,rfl⟩:=Zs h3;obtain⟨a4,c4,rfl⟩:=Zs h4;have hk:=((ZKr w).alloc (.cells (Zx u c sent (.slice a1 hs.length c1) (.slice a2 ls.length c2)) 47)).alloc (.cells (Zx u c sent (.slice a3 bJ.length c3) (.slice a4 bL.length c4)) 47);have af:=(ZBn w 47 (Zx u c sent (.slice a1 hs.length c1) (.slice a2 ls.length c2))).alloc (.cells (Zx u c sent (.slice a3 bJ.length c3) (.slice a4 bL.length c4)) 47);have aL:=ZBn (w.alloc (.cells (Zx u c sent (.slice a1 hs.length c1) (.slice a2 ls.length c2)) 47)) 47 (Zx u c sent (.slice a3 bJ.length c3) (.slice a4 bL.length c4));rw[World.size_alloc] at aL;obtain⟨W,hW⟩:∃ W,W=(w.alloc (.cells (Zx u c sent (.slice a1 hs.length c1) (.slice a2 ls.length c2)) 47)).alloc (.cells (Zx u c sent (.slice a3 bJ.length c3) (.slice a4 bL.length c4)) 47):=⟨_,rfl⟩;rw[←hW] at hk af aL;obtain⟨cQ,cR,HW,HK,H1,H2⟩:=ZH6 (λ W' (hw:Below w.heap.size w W')=>Zta (Ze h1 hw) (Ze h3 hw) e1) (λ W' (hw:Below w.heap.size w W')=>Zta (Ze h2 hw) (Ze h4 hw) e2) hW hk af aL;obtain⟨x0,x1,x2,x3,x4,x5,x6,x7,x8⟩:=af.aj;obtain⟨y0,y1,y2,y3,y4,y5,y6,y7,y8⟩:=aL.aj;have ai:=af.lt;have ag:=aL.lt;rw[hW] at x0 x1 x2 x3 x4 x5 x6 x7 x8 y0 y1 y2 y3 y4 y5 y6 y7 y8 ai ag;have hcs:=Zto c;clear h1 h2 h3 h4 e1 e2 hk af aL hW;go_enter func17,ntmps17;go_wp2_with fail;rw[←HW.out];refine(cQ.out _ HK.out.below).mono ?_;rintro _ w1 ⟨rfl,aG⟩;have aU:=ZH (HK.out.step aG);have au:=H1.out.ob aG;have bb:=H2.out.ob aG;obtain⟨dC,dD⟩:=ZH2 au bb;clear x0 x1 x2 x3 x4 x5 x6 x7 x8 y0 y1 y2 y3 y4 y5 y6 y7 y8 ai ag aG;obtain⟨x0,x1,x2,x3,x4,x5,x6,x7,x8⟩:=au.aj;obtain⟨y0,y1,y2,y3,y4,y5,y6,y7,y8⟩:=bb.aj;have ai:=au.lt;have ag:=bb.lt;clear au bb cQ;go_wp2_with fail;refine(cR.out _ aU.out.below).mono ?_;rintro _ w2 ⟨rfl,aG⟩;have ah:=ZH (aU.out.step aG);have au:=dC.out.ob aG;have bb:=dD.out.ob aG;clear x0 x1 x2 x3 x4 x5 x6 x7 x8 y0 y1 y2 y3 y4 y5 y6 y7 y8 ai ag aG;obtain⟨x0,x1,x2,x3,x4,x5,x6,x7,x8⟩:=au.aj;obtain⟨y0,y1,y2,y3,y4,y5,y6,y7,y8⟩:=bb.aj;have ai:=au.lt;have ag:=bb.lt;clear au bb cR;go_wp2
 go_ret;refine⟨ZM,ah.out.below⟩
theorem ZtE:prog.plainKey 9=true:=ZK
theorem Zty:prog.cellsOf 4=1:=ZK
theorem Ztz:prog.cellsOf 9=1:=ZK
theorem Zs7{xs:Array Value}{o:Nat}{v:Value}(w:World)(h:xs[o]? = some v):(Go.part 9 xs o).run prog w = .ok v w:=run_part_plain (P:=prog) (w:=w) ZtE h
theorem Ztj(d:Nat)(a:ByteArray)(w:World):(Op.equalIn (d+1) 9 (.string a) (.string a)).run prog w = .ok (decide True) w:=by
 rw[run_equalIn_string w d 9 a a underlying9];simp
theorem Ztd(a b:Bool)(w:World):(Op.equalIn 10000 61 (.agg #[.bool a,.bool b]) (.agg #[.bool a,.bool b])).run prog w = .ok true w:=by
 obtain⟨i,hi⟩:=info_of_underlying underlying4;rw[show 10000=9998+1+1 from rfl,run_equalIn_array w _ _ _ underlying61 hi,Zty];simp only[List.range,List.range.loop];refine(Zcx (Zkg w (v := .bool a) rfl) (Zkg w (v := .bool a) rfl) (ZrI _ a a w) (Zcx (Zkg w (v := .bool b) rfl) (Zkg w (v := .bool b) rfl) (ZrI _ b b w) ZmU)).trans ?_;simp
theorem Zte(a b:ByteArray)(w:World):(Op.equalIn 10000 62 (.agg #[.string a,.string b]) (.agg #[.string a,.string b])).run prog w = .ok true w:=by
 obtain⟨i,hi⟩:=info_of_underlying underlying9;rw[show 10000=9998+1+1 from rfl,run_equalIn_array w _ _ _ underlying62 hi,Ztz];simp only[List.range,List.range.loop];refine(Zcx (Zs7 w (v := .string a) rfl) (Zs7 w (v := .string a) rfl) (Ztj _ a w) (Zcx (Zs7 w (v := .string b) rfl) (Zs7 w (v := .string b) rfl) (Ztj _ b w) ZmU)).trans ?_;simp
theorem Zti{w:World}{B:Nat}{v:Value}{ps:List (Con × Value × Value)}(h:ConRows B w v ps){q:Nat}{p:Con × Value × Value}(hq:ps[q]? = some p):
  ∃ g cap a0 k0 a1 k1,v = .slice (some ⟨g,0,none⟩) ps.length cap/\g<w.heap.size/\w.cell? ⟨g,q*7,none⟩=some (.string p.1.key)/\w.cell? ⟨g,q*7+1,none⟩=some (.bool p.1.h0)/\w.cell? ⟨g,q*7+2,none⟩=some (.bool p.1.h1) /\
   w.cell? ⟨g,q*7+3,none⟩=some (.string p.1.f0)/\w.cell? ⟨g,q*7+4,none⟩=some (.string p.1.f1)/\w.cell? ⟨g,q*7+5,none⟩=some (.slice a0 p.1.s0.length k0)/\w.cell? ⟨g,q*7+6,none⟩=some (.slice a1 p.1.s1.length k1) /\
   w.ownsRow B 9 1 (.slice a0 p.1.s0.length k0) p.1.s0.length (p.1.s0.map Value.string)/\w.ownsRow B 9 1 (.slice a1 p.1.s1.length k1) p.1.s1.length (p.1.s1.map Value.string):=by
 have cF:q<ps.length:=(ZZ.1 hq).1;have hr:=h.row;have hm:=ZY hq;obtain⟨c,v0,v1⟩:=p;have h0:=h.s0 _ hm;have h1:=h.s1 _ hm;simp only at h0 h1;obtain⟨a0,k0,rfl⟩:=Zs h0;obtain⟨a1,k1,rfl⟩:=Zs h1;obtain⟨a,cap,rfl⟩:=Zs hr;obtain⟨g,rfl,aN,hc⟩:=Zby hr ZO;have hf:∀ (l:List (Con × Value × Value)) (q:Nat) (p:Con × Value × Value),l[q]? = some p->∀ j u,(Za3 p.1 p.2.1 p.2.2).toList[j]? = some u->(conCells l)[q*7+j]? = some u:=by
  intro l
  induction l with
  | nil=>intro q p h;simp at h
  | cons x l ih =>
   intro q p h j u hj;have e:conCells (x::l)=(Za3 x.1 x.2.1 x.2.2).toList++conCells l:=rfl;have hl:(Za3 x.1 x.2.1 x.2.2).toList.length=7:=rfl;rw[e]
   cases q with
   | zero =>
    simp at h;subst h;have hj7:j<7:=(ZZ.1 hj).1;rw[List.getElem?_append_left (by rw[hl];omega),Nat.zero_mul,Nat.zero_add];exact hj
   | succ q =>
    rw[List.getElem?_append_right (by rw[hl];omega),hl,show(q+1)*7+j-7=q*7+j by omega];exact ih q p (by simpa using h) j u hj
 have bs:∀ j u,(Za3 c (.slice a0 c.s0.length k0) (.slice a1 c.s1.length k1)).toList[j]? = some u->w.cell? ⟨g,q*7+j,none⟩=some u:=λ j u hj=>by
  have h2:=hf ps q _ hq j u hj;exact(hc _ (ZZ.1 h2).1).trans h2
 exact⟨g,cap,a0,k0,a1,k1,rfl,aN,bs 0 _ rfl,bs 1 _ rfl,bs 2 _ rfl,bs 3 _ rfl,bs 4 _ rfl,bs 5 _ rfl,bs 6 _ rfl,h0,h1⟩
theorem Ztb{w:World}{B:Nat}{a:Option Addr}{n k:Nat}{l:List ByteArray}(h:w.ownsRow B 9 1 (.slice a n k) n (l.map Value.string)){q:Nat}{s:ByteArray}(hq:l[q]? = some s):
  ∃ g,a=some ⟨g,0,none⟩/\g<w.heap.size/\w.cell? ⟨g,q,none⟩=some (.string s):=by
 have dS:(l.map Value.string).length=n*1:=h.1;have cF:q<l.length:=(ZZ.1 hq).1;rw[List.length_map] at dS;obtain⟨g,hg,aN,hc⟩:=Zby h ZO;refine⟨g,hg,aN,(hc q (by rw[List.length_map];exact cF)).trans ?_⟩;rw[List.getElem?_map,hq];rfl
theorem Ztl{w:World}{B1 B2:Nat}{va vb:Value}{ps qs:List (Con × Value × Value)}(ha:ConRows B1 w va ps)(hb:ConRows B2 w vb qs)(h:ps.map (·.1)=qs.map (·.1)):Calls prog 16 #[va,vb] w (Zv (.bool true) w):=by
 have hl:qs.length=ps.length:=by
  have:=congrArg List.length h;simpa using this.symm
 obtain⟨aa,ca,rfl⟩:=Zs ha.row;obtain⟨ab,cb,rfl⟩:=Zs hb.row;have dU:=Zs9 ha.row;obtain⟨HA,HB,HM,HK⟩:=ZH4 ha hb h (ZKr w);obtain⟨n,aP⟩:∃ n,n=ps.length:=⟨_,rfl⟩;obtain⟨HN,HL⟩:=ZH2 aP hl;rw[hl,←aP];rw[←aP] at dU;clear ha hb h hl aP;have aG:=Ztd;have hq2:=Zte;go_enter func16,ntmps16;go_wp2_with fail;go_loopw [5] (λ i wr=>∃ q:Nat,q<=n/\i = .int .i64 q/\Hid (Kept w.heap.size w wr)) (λ i _=>n-(intOf i).toNat)
 case atStart=>exact⟨0,ZO,rfl,HK⟩
 case round =>
  clear HK;obtain⟨q,hq,rfl,HK⟩:=hrel;by_cases bc:q<n
  ·obtain⟨p,hp⟩:∃ p,ps[q]? = some p:=⟨_,ZX (by rw[←HN.out];exact bc)⟩;obtain⟨p',cJ⟩:∃ p',qs[q]? = some p':=⟨_,ZX (by rw[HL.out,←HN.out];exact bc)⟩;have dq:p'.1=p.1:=by
    have h1:(ps.map (·.1))[q]? = some p.1:=by rw[List.getElem?_map,hp];rfl
    rw[HM.out,List.getElem?_map,cJ] at h1;simpa using h1
   obtain⟨g1,k1,x0,j0,x1,j1,dv,bt,a0,a1,a2,a3,a4,a5,a6,r0,r1⟩:=Zti HA.out hp;obtain⟨g2,k2,y0,i0,y1,i1,dw,bu,b0,b1,b2,b3,b4,b5,b6,t0,t1⟩:=Zti HB.out cJ;obtain rfl:aa=some ⟨g1,0,none⟩:=by injection dv
   obtain rfl:ab=some ⟨g2,0,none⟩:=by injection dw
   rw[dq] at b0 b1 b2 b3 b4 b5 b6 t0 t1;rw[←HK.out.cells g1 _ bt] at a0 a1 a2 a3 a4 a5 a6;rw[←HK.out.cells g2 _ bu] at b0 b1 b2 b3 b4 b5 b6;have ai:g1<wr.heap.size:=ZR bt HK.out.le;have ag:g2<wr.heap.size:=ZR bu HK.out.le;have hm0:=Zs9 r0;have cG:=Zs9 r1;obtain⟨R0,R1,T0,T1⟩:=ZH4 r0 r1 t0 t1;generalize p.1=c at *;clear hp cJ dq dv dw bt bu r0 r1 t0 t1;go_wp2_with fail;go_quiet (fail)
   go_wp2_with fail;have aU:Hid (Kept wr.heap.size wr wr):=ZH (ZKr wr);obtain⟨W,hW⟩:∃ W,W=wr:=⟨_,rfl⟩;subst hW;go_loopw [6] (λ i wr=>∃ m:Nat,((m=0/\i = .int .i64 0)∨(m=1/\i = .int .i64 1)∨(m=2/\i = .int .i64 2))/\Hid (Kept W.heap.size W wr)) (λ i _=>2-(intOf i).toNat)
   case atStart=>exact⟨0,.inl ⟨rfl,rfl⟩,aU.out.drewN _⟩
   case round =>
    clear aU;obtain⟨m,hm,ah⟩:=hrel;obtain⟨W2,dO⟩:∃ W2,W2=wr:=⟨_,rfl⟩;subst dO;have hl1'':g1<W2.heap.size:=ZR ai ah.out.le;have hl2'':g2<W2.heap.size:=ZR ag ah.out.le;rcases hm with ⟨rfl,rfl⟩|⟨rfl,rfl⟩|⟨rfl,rfl⟩
    ·have cq:=(ah.out.cells g1 _ ai).trans a5;have cr:=(ah.out.cells g2 _ ag).trans b5;have cm:=ah;go_wp2_with fail;go_quiet (fail)
     go_wp2_with fail;go_loopw [7] (λ i wr=>∃ k:Nat,k<=c.s0.length/\i = .int .i64 k/\Hid (Kept W.heap.size W wr)) (λ i _=>c.s0.length-(intOf i).toNat)
     case atStart=>exact⟨0,ZO,rfl,cm.out.drewN _⟩
     case round =>
      obtain⟨k,hk,rfl,ak⟩:=hrel;have dJ:=(ak.out.cells g1 _ ai).trans a5;have dK:=(ak.out.cells g2 _ ag).trans b5;have cC:g1<wr.heap.size:=ZR ai ak.out.le;have cD:g2<wr.heap.size:=ZR ag ak.out.le;by_cases cB:k<c.s0.length
      ·obtain⟨z,hz⟩:∃ z,(c.s0)[k]? = some z:=⟨_,ZX cB⟩;obtain⟨h1,rfl,cg,z1⟩:=Ztb (Ze (Ze R0.out HK.out.below) ak.out.below) hz;obtain⟨h2,rfl,bW,z2⟩:=Ztb (Ze (Ze T0.out HK.out.below) ak.out.below) hz;clear hz;go_wp2_with fail;go_quiet (fail)
       go_wp2
       go_roundw
       case rel=>exact⟨k+1,ZO,ZN,ak.out.drewN _⟩
       case measure=>simp[intOf];omega
      ·obtain rfl:k=c.s0.length:=ZO;go_wp2
       go_roundw
       case rel=>exact⟨1,.inr (.inl ⟨rfl,rfl⟩),ak⟩
       case measure=>simp[intOf]
    ·have cq:=(ah.out.cells g1 _ ai).trans a6;have cr:=(ah.out.cells g2 _ ag).trans b6;have cm:=ah;go_wp2_with fail;go_quiet (fail)
     go_wp2_with fail;go_loopw [7] (λ i wr=>∃ k:Nat,k<=c.s1.length/\i = .int .i64 k/\Hid (Kept W.heap.size W wr)) (λ i _=>c.s1.length-(intOf i).toNat)
     case atStart=>exact⟨0,ZO,rfl,cm.out.drewN _⟩
     case round =>
      obtain⟨k,hk,rfl,ak⟩:=hrel;have dJ:=(ak.out.cells g1 _ ai).trans a6;have dK:=(ak.out.cells g2 _ ag).trans b6;have cC:g1<wr.heap.size:=ZR ai ak.out.le;have cD:g2<wr.heap.size:=ZR ag ak.out.le;by_cases cB:k<c.s1.length
      ·obtain⟨z,hz⟩:∃ z,(c.s1)[k]? = some z:=⟨_,ZX cB⟩;obtain⟨h1,rfl,cg,z1⟩:=Ztb (Ze (Ze R1.out HK.out.below) ak.out.below) hz;obtain⟨h2,rfl,bW,z2⟩:=Ztb (Ze (Ze T1.out HK.out.below) ak.out.below) hz;clear hz;go_wp2_with fail;go_quiet (fail)
       go_wp2
       go_roundw
       case rel=>exact⟨k+1,ZO,ZN,ak.out.drewN _⟩
       case measure=>simp[intOf];omega
      ·obtain rfl:k=c.s1.length:=ZO;go_wp2
       go_roundw
       case rel=>exact⟨2,.inr (.inr ⟨rfl,rfl⟩),ak⟩
       case measure=>simp[intOf]
    ·go_wp2
     go_roundw
     case rel=>exact⟨q+1,ZO,ZN,HK.out.trans ah.out HK.out.le⟩
     case measure=>simp[intOf];omega
  ·obtain rfl:q=n:=ZO;go_wp2
   go_ret;exact⟨rfl,HK.out.below⟩
end Go.Proofs.YtjkfognelhiepaaGreat
