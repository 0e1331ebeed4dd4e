import Derived.Test.YtjkfognelhiepaaGreatC28
namespace Go.Proofs.YtjkfognelhiepaaGreat
open Go.RowKit _root_.Go.Proofs.Tryz
set_option maxRecDepth 100000
set_option maxHeartbeats 8000000
section
open Go.RowKit Go.Sort Go.Shelf Go.Maps
theorem Ztl(s:ByteArray):toB (ofB s)=s:=rfl
end
def Zs3(s:RawSt):Nat:=(Zle s.kind 12).toNat
def Zth(n:Nat)(s:RawSt):Nat:=if (Zle s.r (n+1)).toNat=n then(if Zs3 s<8∨Zs3 s=11 then 0 else 5) else(Zle s.r (n+1)).toNat
def Zs1(n:Nat)(s:RawSt):St:=⟨Zs3 s,Zth n s,ZcX s.ek,Zd0 (Zej s.key s.key.size),Zg3 (ZcX s.ek) s.label,ZeG (ZcX s.ek) s.value,s.at_,s.bit,s.mask.toNat,s.keep,false⟩
theorem Ztg(s:RawSt):Zs3 s<=11:=by
 have h:=Zns s.kind (k:=12) ZO;unfold Zs3;omega
theorem Ztw{c:Cfg}(hc:c.Ok)(s:RawSt):Zth c.n s<c.n∨Zth c.n s=5/\8<=Zs3 s/\Zs3 s<=10:=by
 have h:=Zns s.r (k:=c.n+1) ZO;have hk:=Ztg s;have h1:=hc.n1;unfold Zth;split
 ·split
  ·exact .inl ZO
  ·exact .inr ⟨rfl,ZO,ZO⟩
 ·exact .inl ZO
theorem ZtI{c:Cfg}(hc:c.Ok){s:RawSt}(hs:RawOk s):StOk c (Zs1 c.n s):=by
 refine⟨Ztg s,?_,ZsV _ _ _ _,?_⟩
 ·rcases Ztw hc s with h | h
  ·exact .inl h
  ·exact .inr h.1
 ·show s.mask.toNat<4294967296
  have:=hs.mask0;have:=hs.mask;omega
abbrev Zs2(s:St):Array Value:=#[.int .i64 s.kind,.int .i64 s.r,.int .i64 s.ek,.string s.key,.int .i64 s.label,.string s.value,.int .i64 s.at_,.int .i64 s.bit,.int .u32 s.mask,.int .i64 s.keep]
abbrev ZtR(s:St):Value := .agg (Zs2 s)
theorem Blk.a7{w:World}{g:Nat}{ty:TypeId}{v0 v1 v2 v3 v4 v5 v6 v7 v8 v9:Value}(h:Blk w g ty #[v0,v1,v2,v3,v4,v5,v6,v7,v8,v9]):w.cell? ⟨g,0,none⟩=some v0/\w.cell? ⟨g,1,none⟩=some v1/\w.cell? ⟨g,2,none⟩=some v2/\w.cell? ⟨g,3,none⟩=some v3/\w.cell? ⟨g,4,none⟩=some v4/\w.cell? ⟨g,5,none⟩=some v5/\w.cell? ⟨g,6,none⟩=some v6/\w.cell? ⟨g,7,none⟩=some v7/\w.cell? ⟨g,8,none⟩=some v8/\w.cell? ⟨g,9,none⟩=some v9 :=
 ⟨h.cell 0,h.cell 1,h.cell 2,h.cell 3,h.cell 4,h.cell 5,h.cell 6,h.cell 7,h.cell 8,h.cell 9⟩
theorem ZtY(s:RawSt)(n:Nat)(h1:1<=n)(h5:n<=5)(hs:RawOk s)(w:World):
  Calls prog 31 #[.agg #[.int .i64 s.kind,.int .i64 s.r,.int .i64 s.ek,.string s.key,.int .i64 s.label,.string s.value,.int .i64 s.at_,.int .i64 s.bit,.int .u32 s.mask,.int .i64 s.keep],.int .i64 n] w (Zv (ZtR (Zs1 n s)) w):=by
 have hb:=(ZBn w 36 #[.int .i64 s.kind,.int .i64 s.r,.int .i64 s.ek,.string s.key,.int .i64 s.label,.string s.value,.int .i64 s.at_,.int .i64 s.bit,.int .u32 s.mask,.int .i64 s.keep]).alloc (.cells #[.int .i64 0,.int .i64 0,.int .i64 0,.string ByteArray.empty,.int .i64 0,.string ByteArray.empty,.int .i64 0,.int .i64 0,.int .u32 0,.int .i64 0] 36);obtain⟨c0,c1,c2,c3,c4,c5,c6,c7,c8,c9⟩:=hb.a7;have hl:=hb.lt;clear hb;have dF:(wrap64 (s.kind.tmod 12+12)).tmod 12=(Zs3 s:Int):=ZsW s.kind ZO ZO;obtain⟨R,hR⟩:∃ R,R=(Zle s.r (n+1)).toNat:=⟨_,rfl⟩;have ev:(wrap64 (wrap64 (s.r.tmod ((n:Int)+1)+(n:Int))+1)).tmod ((n:Int)+1)=(R:Int):=by
  rw[hR,←ZsW s.r ZO ZO];have b1:=Int.tmod_lt_of_pos s.r (show 0<(n:Int)+1 by omega);have b2 : -((n:Int)+1)<s.r.tmod ((n:Int)+1):=by
   have:=Int.tmod_lt_of_pos (-s.r) (show 0<(n:Int)+1 by omega);rw[Int.neg_tmod] at this;omega
  generalize s.r.tmod ((n:Int)+1)=z at *;have e:wrap64 (wrap64 (z+(n:Int))+1)=wrap64 (z+((n:Int)+1)):=by unfold wrap64;omega
  rw[e]
 have cU:=Ztg s;have dE:Zth n s=if R=n then(if Zs3 s<8∨Zs3 s=11 then 0 else 5) else R:=by rw[hR];rfl
 have bj:=ZH dE;obtain⟨K,hK⟩:∃ K,K=Zs3 s:=⟨_,rfl⟩;rw[←hK] at dF cU bj;obtain⟨ct,HKW,HRW⟩:=ZH3 hK dF ev;have hRn:R<=n:=by
  have:=Zns s.r (k:=(n:Int)+1) ZO;omega
 clear hK dE hR;have bc:=ZH (ZsZ s.ek s.key s.label s.value · hs.key hs.value);go_enter func31,ntmps31;by_cases hr:R=n
 ·by_cases h8:K<8
  ·obtain⟨aL,cI⟩:=ZH2 hr h8;go_wp2_with fail;have aM:=(ZBn w 36 #[.int .i64 (K:Int),.int .i64 0,.int .i64 s.ek,.string s.key,.int .i64 s.label,.string s.value,.int .i64 s.at_,.int .i64 s.bit,.int .u32 s.mask,.int .i64 s.keep]).alloc (.cells #[.int .i64 0,.int .i64 0,.int .i64 0,.string ⟨#[]⟩,.int .i64 0,.string ⟨#[]⟩,.int .i64 0,.int .i64 0,.int .u32 0,.int .i64 0] 36);have ag:=ZBn (w.alloc (.cells #[.int .i64 (K:Int),.int .i64 0,.int .i64 s.ek,.string s.key,.int .i64 s.label,.string s.value,.int .i64 s.at_,.int .i64 s.bit,.int .u32 s.mask,.int .i64 s.keep] 36)) 36 #[.int .i64 0,.int .i64 0,.int .i64 0,.string ⟨#[]⟩,.int .i64 0,.string ⟨#[]⟩,.int .i64 0,.int .i64 0,.int .u32 0,.int .i64 0];rw[World.size_alloc] at ag;have ah:=((ZKr w).alloc (.cells #[.int .i64 (K:Int),.int .i64 0,.int .i64 s.ek,.string s.key,.int .i64 s.label,.string s.value,.int .i64 s.at_,.int .i64 s.bit,.int .u32 s.mask,.int .i64 s.keep] 36)).alloc (.cells #[.int .i64 0,.int .i64 0,.int .i64 0,.string ⟨#[]⟩,.int .i64 0,.string ⟨#[]⟩,.int .i64 0,.int .i64 0,.int .u32 0,.int .i64 0] 36);refine(bc.out _).mono ?_;generalize (w.alloc (.cells #[.int .i64 (K:Int),.int .i64 0,.int .i64 s.ek,.string s.key,.int .i64 s.label,.string s.value,.int .i64 s.at_,.int .i64 s.bit,.int .u32 s.mask,.int .i64 s.keep] 36)).alloc (.cells #[.int .i64 0,.int .i64 0,.int .i64 0,.string ⟨#[]⟩,.int .i64 0,.string ⟨#[]⟩,.int .i64 0,.int .i64 0,.int .u32 0,.int .i64 0] 36)=W at *;rintro _ w1 ⟨rfl,hb⟩;obtain⟨HB,HK⟩:=ZH2 (ag.ob hb) (ah.step hb);have hc:=aM.ob hb;clear aM ag ah hb;obtain⟨c0,c1,c2,c3,c4,c5,c6,c7,c8,c9⟩:=hc.a7;have hl:=hc.lt;have hf:=λ i=>hc.frozen i
   obtain⟨d0,d1,d2,d3,d4,d5,d6,d7,d8,d9⟩:=HB.out.a7;have ay:=HB.out.lt;have da:=λ i=>HB.out.frozen i
   clear hc;go_wp2_with fail;have bw:Zth n s=0:=by rw[bj.out];rw[if_pos aL.out,if_pos (.inl cI.out)]
   have aF:=Zaw (vs:=Zs2 ⟨K,0,ZcX s.ek,Zd0 (Zej s.key s.key.size),Zg3 (ZcX s.ek) s.label,ZeG (ZcX s.ek) s.value,s.at_,s.bit,s.mask.toNat,s.keep,false⟩) ((Zaj (show w.heap.size+1≠w.heap.size by omega) [.int .i64 (ZcX s.ek:Int),.string (Zd0 (Zej s.key s.key.size)),.int .i64 (Zg3 (ZcX s.ek) s.label:Int),.string (ZeG (ZcX s.ek) s.value)] 2 w1).trans HB.out) rfl;have bP:=ZaB (ZaB HK.out (g:=w.heap.size) (ZL _) 2 [.int .i64 (ZcX s.ek:Int),.string (Zd0 (Zej s.key s.key.size)),.int .i64 (Zg3 (ZcX s.ek) s.label:Int),.string (ZeG (ZcX s.ek) s.value)]) (g:=w.heap.size+1) ZO 0 (Zs2 ⟨K,0,ZcX s.ek,Zd0 (Zej s.key s.key.size),Zg3 (ZcX s.ek) s.label,ZeG (ZcX s.ek) s.value,s.at_,s.bit,s.mask.toNat,s.keep,false⟩).toList;have bR:s.mask=((s.mask.toNat:Nat):Int):=by have:=hs.mask0;omega
   have e:Zs1 n s=⟨K,0,ZcX s.ek,Zd0 (Zej s.key s.key.size),Zg3 (ZcX s.ek) s.label,ZeG (ZcX s.ek) s.value,s.at_,s.bit,s.mask.toNat,s.keep,false⟩:=by unfold Zs1;rw[bw,←ct.out]
   rw[e];rw[bR];refine bodyPost_ret (Zac rfl rfl (run_loadVar_row _ _ _ _ _ _ _ aF underlying36 rfl ZK)) rfl ?_;exact⟨rfl,bP.below⟩
  ·by_cases cw:K=11
   focus
    obtain⟨aL,bt⟩:=ZH2 hr cw;have cV:((K:Int)==11)=true:=by rw[cw];rfl
    clear cw;go_wp2_with fail;have aM:=(ZBn w 36 #[.int .i64 (K:Int),.int .i64 0,.int .i64 s.ek,.string s.key,.int .i64 s.label,.string s.value,.int .i64 s.at_,.int .i64 s.bit,.int .u32 s.mask,.int .i64 s.keep]).alloc (.cells #[.int .i64 0,.int .i64 0,.int .i64 0,.string ⟨#[]⟩,.int .i64 0,.string ⟨#[]⟩,.int .i64 0,.int .i64 0,.int .u32 0,.int .i64 0] 36);have ag:=ZBn (w.alloc (.cells #[.int .i64 (K:Int),.int .i64 0,.int .i64 s.ek,.string s.key,.int .i64 s.label,.string s.value,.int .i64 s.at_,.int .i64 s.bit,.int .u32 s.mask,.int .i64 s.keep] 36)) 36 #[.int .i64 0,.int .i64 0,.int .i64 0,.string ⟨#[]⟩,.int .i64 0,.string ⟨#[]⟩,.int .i64 0,.int .i64 0,.int .u32 0,.int .i64 0];rw[World.size_alloc] at ag;have ah:=((ZKr w).alloc (.cells #[.int .i64 (K:Int),.int .i64 0,.int .i64 s.ek,.string s.key,.int .i64 s.label,.string s.value,.int .i64 s.at_,.int .i64 s.bit,.int .u32 s.mask,.int .i64 s.keep] 36)).alloc (.cells #[.int .i64 0,.int .i64 0,.int .i64 0,.string ⟨#[]⟩,.int .i64 0,.string ⟨#[]⟩,.int .i64 0,.int .i64 0,.int .u32 0,.int .i64 0] 36);refine(bc.out _).mono ?_;generalize (w.alloc (.cells #[.int .i64 (K:Int),.int .i64 0,.int .i64 s.ek,.string s.key,.int .i64 s.label,.string s.value,.int .i64 s.at_,.int .i64 s.bit,.int .u32 s.mask,.int .i64 s.keep] 36)).alloc (.cells #[.int .i64 0,.int .i64 0,.int .i64 0,.string ⟨#[]⟩,.int .i64 0,.string ⟨#[]⟩,.int .i64 0,.int .i64 0,.int .u32 0,.int .i64 0] 36)=W at *;rintro _ w1 ⟨rfl,hb⟩;obtain⟨HB,HK⟩:=ZH2 (ag.ob hb) (ah.step hb);have hc:=aM.ob hb;clear aM ag ah hb;obtain⟨c0,c1,c2,c3,c4,c5,c6,c7,c8,c9⟩:=hc.a7;have hl:=hc.lt;have hf:=λ i=>hc.frozen i
    obtain⟨d0,d1,d2,d3,d4,d5,d6,d7,d8,d9⟩:=HB.out.a7;have ay:=HB.out.lt;have da:=λ i=>HB.out.frozen i
    clear hc;go_wp2_with fail;have bw:Zth n s=0:=by rw[bj.out];rw[if_pos aL.out,if_pos (.inr bt.out)]
    have aF:=Zaw (vs:=Zs2 ⟨K,0,ZcX s.ek,Zd0 (Zej s.key s.key.size),Zg3 (ZcX s.ek) s.label,ZeG (ZcX s.ek) s.value,s.at_,s.bit,s.mask.toNat,s.keep,false⟩) ((Zaj (show w.heap.size+1≠w.heap.size by omega) [.int .i64 (ZcX s.ek:Int),.string (Zd0 (Zej s.key s.key.size)),.int .i64 (Zg3 (ZcX s.ek) s.label:Int),.string (ZeG (ZcX s.ek) s.value)] 2 w1).trans HB.out) rfl;have bP:=ZaB (ZaB HK.out (g:=w.heap.size) (ZL _) 2 [.int .i64 (ZcX s.ek:Int),.string (Zd0 (Zej s.key s.key.size)),.int .i64 (Zg3 (ZcX s.ek) s.label:Int),.string (ZeG (ZcX s.ek) s.value)]) (g:=w.heap.size+1) ZO 0 (Zs2 ⟨K,0,ZcX s.ek,Zd0 (Zej s.key s.key.size),Zg3 (ZcX s.ek) s.label,ZeG (ZcX s.ek) s.value,s.at_,s.bit,s.mask.toNat,s.keep,false⟩).toList;have bR:s.mask=((s.mask.toNat:Nat):Int):=by have:=hs.mask0;omega
    have e:Zs1 n s=⟨K,0,ZcX s.ek,Zd0 (Zej s.key s.key.size),Zg3 (ZcX s.ek) s.label,ZeG (ZcX s.ek) s.value,s.at_,s.bit,s.mask.toNat,s.keep,false⟩:=by unfold Zs1;rw[bw,←ct.out]
   rotate_left
   focus
    obtain⟨aL,bt,cI⟩:=ZH3 hr cw h8;have cV:((K:Int)==11)=false:=ZP;go_wp2_with fail;have aM:=(ZBn w 36 #[.int .i64 (K:Int),.int .i64 5,.int .i64 s.ek,.string s.key,.int .i64 s.label,.string s.value,.int .i64 s.at_,.int .i64 s.bit,.int .u32 s.mask,.int .i64 s.keep]).alloc (.cells #[.int .i64 0,.int .i64 0,.int .i64 0,.string ⟨#[]⟩,.int .i64 0,.string ⟨#[]⟩,.int .i64 0,.int .i64 0,.int .u32 0,.int .i64 0] 36);have ag:=ZBn (w.alloc (.cells #[.int .i64 (K:Int),.int .i64 5,.int .i64 s.ek,.string s.key,.int .i64 s.label,.string s.value,.int .i64 s.at_,.int .i64 s.bit,.int .u32 s.mask,.int .i64 s.keep] 36)) 36 #[.int .i64 0,.int .i64 0,.int .i64 0,.string ⟨#[]⟩,.int .i64 0,.string ⟨#[]⟩,.int .i64 0,.int .i64 0,.int .u32 0,.int .i64 0];rw[World.size_alloc] at ag;have ah:=((ZKr w).alloc (.cells #[.int .i64 (K:Int),.int .i64 5,.int .i64 s.ek,.string s.key,.int .i64 s.label,.string s.value,.int .i64 s.at_,.int .i64 s.bit,.int .u32 s.mask,.int .i64 s.keep] 36)).alloc (.cells #[.int .i64 0,.int .i64 0,.int .i64 0,.string ⟨#[]⟩,.int .i64 0,.string ⟨#[]⟩,.int .i64 0,.int .i64 0,.int .u32 0,.int .i64 0] 36);refine(bc.out _).mono ?_;generalize (w.alloc (.cells #[.int .i64 (K:Int),.int .i64 5,.int .i64 s.ek,.string s.key,.int .i64 s.label,.string s.value,.int .i64 s.at_,.int .i64 s.bit,.int .u32 s.mask,.int .i64 s.keep] 36)).alloc (.cells #[.int .i64 0,.int .i64 0,.int .i64 0,.string ⟨#[]⟩,.int .i64 0,.string ⟨#[]⟩,.int .i64 0,.int .i64 0,.int .u32 0,.int .i64 0] 36)=W at *;rintro _ w1 ⟨rfl,hb⟩;obtain⟨HB,HK⟩:=ZH2 (ag.ob hb) (ah.step hb);have hc:=aM.ob hb;clear aM ag ah hb;obtain⟨c0,c1,c2,c3,c4,c5,c6,c7,c8,c9⟩:=hc.a7;have hl:=hc.lt;have hf:=λ i=>hc.frozen i
    obtain⟨d0,d1,d2,d3,d4,d5,d6,d7,d8,d9⟩:=HB.out.a7;have ay:=HB.out.lt;have da:=λ i=>HB.out.frozen i
    clear hc;go_wp2_with fail;have bw:Zth n s=5:=by rw[bj.out];rw[if_pos aL.out,if_neg (λ h=>h.elim cI.out bt.out)]
    have aF:=Zaw (vs:=Zs2 ⟨K,5,ZcX s.ek,Zd0 (Zej s.key s.key.size),Zg3 (ZcX s.ek) s.label,ZeG (ZcX s.ek) s.value,s.at_,s.bit,s.mask.toNat,s.keep,false⟩) ((Zaj (show w.heap.size+1≠w.heap.size by omega) [.int .i64 (ZcX s.ek:Int),.string (Zd0 (Zej s.key s.key.size)),.int .i64 (Zg3 (ZcX s.ek) s.label:Int),.string (ZeG (ZcX s.ek) s.value)] 2 w1).trans HB.out) rfl;have bP:=ZaB (ZaB HK.out (g:=w.heap.size) (ZL _) 2 [.int .i64 (ZcX s.ek:Int),.string (Zd0 (Zej s.key s.key.size)),.int .i64 (Zg3 (ZcX s.ek) s.label:Int),.string (ZeG (ZcX s.ek) s.value)]) (g:=w.heap.size+1) ZO 0 (Zs2 ⟨K,5,ZcX s.ek,Zd0 (Zej s.key s.key.size),Zg3 (ZcX s.ek) s.label,ZeG (ZcX s.ek) s.value,s.at_,s.bit,s.mask.toNat,s.keep,false⟩).toList;have bR:s.mask=((s.mask.toNat:Nat):Int):=by have:=hs.mask0;omega
    have e:Zs1 n s=⟨K,5,ZcX s.ek,Zd0 (Zej s.key s.key.size),Zg3 (ZcX s.ek) s.label,ZeG (ZcX s.ek) s.value,s.at_,s.bit,s.mask.toNat,s.keep,false⟩:=by unfold Zs1;rw[bw,←ct.out]
   rotate_left
   all_goals
    rw[e];rw[bR];refine bodyPost_ret (Zac rfl rfl (run_loadVar_row _ _ _ _ _ _ _ aF underlying36 rfl ZK)) rfl ?_;exact⟨rfl,bP.below⟩
 ·have aL:=ZH hr;have hbr:((R:Int)==(n:Int))=false:=ZP;go_wp2_with fail;have aM:=(ZBn w 36 #[.int .i64 (K:Int),.int .i64 (R:Int),.int .i64 s.ek,.string s.key,.int .i64 s.label,.string s.value,.int .i64 s.at_,.int .i64 s.bit,.int .u32 s.mask,.int .i64 s.keep]).alloc (.cells #[.int .i64 0,.int .i64 0,.int .i64 0,.string ⟨#[]⟩,.int .i64 0,.string ⟨#[]⟩,.int .i64 0,.int .i64 0,.int .u32 0,.int .i64 0] 36);have ag:=ZBn (w.alloc (.cells #[.int .i64 (K:Int),.int .i64 (R:Int),.int .i64 s.ek,.string s.key,.int .i64 s.label,.string s.value,.int .i64 s.at_,.int .i64 s.bit,.int .u32 s.mask,.int .i64 s.keep] 36)) 36 #[.int .i64 0,.int .i64 0,.int .i64 0,.string ⟨#[]⟩,.int .i64 0,.string ⟨#[]⟩,.int .i64 0,.int .i64 0,.int .u32 0,.int .i64 0];rw[World.size_alloc] at ag;have ah:=((ZKr w).alloc (.cells #[.int .i64 (K:Int),.int .i64 (R:Int),.int .i64 s.ek,.string s.key,.int .i64 s.label,.string s.value,.int .i64 s.at_,.int .i64 s.bit,.int .u32 s.mask,.int .i64 s.keep] 36)).alloc (.cells #[.int .i64 0,.int .i64 0,.int .i64 0,.string ⟨#[]⟩,.int .i64 0,.string ⟨#[]⟩,.int .i64 0,.int .i64 0,.int .u32 0,.int .i64 0] 36);refine(bc.out _).mono ?_;generalize (w.alloc (.cells #[.int .i64 (K:Int),.int .i64 (R:Int),.int .i64 s.ek,.string s.key,.int .i64 s.label,.string s.value,.int .i64 s.at_,.int .i64 s.bit,.int .u32 s.mask,.int .i64 s.keep] 36)).alloc (.cells #[.int .i64 0,.int .i64 0,.int .i64 0,.string ⟨#[]⟩,.int .i64 0,.string ⟨#[]⟩,.int .i64 0,.int .i64 0,.int .u32 0,.int .i64 0] 36)=W at *;rintro _ w1 ⟨rfl,hb⟩;obtain⟨HB,HK⟩:=ZH2 (ag.ob hb) (ah.step hb);have hc:=aM.ob hb;clear aM ag ah hb;obtain⟨c0,c1,c2,c3,c4,c5,c6,c7,c8,c9⟩:=hc.a7;have hl:=hc.lt;have hf:=λ i=>hc.frozen i
  obtain⟨d0,d1,d2,d3,d4,d5,d6,d7,d8,d9⟩:=HB.out.a7;have ay:=HB.out.lt;have da:=λ i=>HB.out.frozen i
  clear hc;go_wp2_with fail;have bw:Zth n s=R:=by rw[bj.out];rw[if_neg aL.out]
  have aF:=Zaw (vs:=Zs2 ⟨K,R,ZcX s.ek,Zd0 (Zej s.key s.key.size),Zg3 (ZcX s.ek) s.label,ZeG (ZcX s.ek) s.value,s.at_,s.bit,s.mask.toNat,s.keep,false⟩) ((Zaj (show w.heap.size+1≠w.heap.size by omega) [.int .i64 (ZcX s.ek:Int),.string (Zd0 (Zej s.key s.key.size)),.int .i64 (Zg3 (ZcX s.ek) s.label:Int),.string (ZeG (ZcX s.ek) s.value)] 2 w1).trans HB.out) rfl;have bP:=ZaB (ZaB HK.out (g:=w.heap.size) (ZL _) 2 [.int .i64 (ZcX s.ek:Int),.string (Zd0 (Zej s.key s.key.size)),.int .i64 (Zg3 (ZcX s.ek) s.label:Int),.string (ZeG (ZcX s.ek) s.value)]) (g:=w.heap.size+1) ZO 0 (Zs2 ⟨K,R,ZcX s.ek,Zd0 (Zej s.key s.key.size),Zg3 (ZcX s.ek) s.label,ZeG (ZcX s.ek) s.value,s.at_,s.bit,s.mask.toNat,s.keep,false⟩).toList;have bR:s.mask=((s.mask.toNat:Nat):Int):=by have:=hs.mask0;omega
  have e:Zs1 n s=⟨K,R,ZcX s.ek,Zd0 (Zej s.key s.key.size),Zg3 (ZcX s.ek) s.label,ZeG (ZcX s.ek) s.value,s.at_,s.bit,s.mask.toNat,s.keep,false⟩:=by unfold Zs1;rw[bw,←ct.out]
  rw[e];rw[bR];refine bodyPost_ret (Zac rfl rfl (run_loadVar_row _ _ _ _ _ _ _ aF underlying36 rfl ZK)) rfl ?_;exact⟨rfl,bP.below⟩
def stL(s:St):List Value:=(Zs2 s).toList
def Zs5(n:Nat)(ss:List RawSt):List St:=(ss.take 60).map (Zs1 n)
theorem ZtV:(prog.info? 36).map (λ i=>(i.zero,i.size,i.bytes))=some (some (.agg #[.int .i64 0,.int .i64 0,.int .i64 0,.string ByteArray.empty,.int .i64 0,.string ByteArray.empty,.int .i64 0,.int .i64 0,.int .u32 0,.int .i64 0]),10,96):=ZK
theorem ZtA(w:World)(e:TypeId)(sz:Nat):(w.alloc (.cells #[] e)).ownsRow w.heap.size e sz (.slice (some ⟨w.heap.size,0,none⟩) 0 0) 0 [] :=
 ⟨ZM,.inr ⟨w.heap.size,0,#[],rfl,ZL _,heap_alloc_new w _,ZL _,by simp[maxLen],ZM,ZM⟩⟩
theorem ZtO{w:World}{a:Option Addr}{n cap N:Nat}{ss:List RawSt}(hr:Reads w w.heap.size 10 a n (ss.flatMap Zdi))(hn:n=ss.length)(aG:∀ s∈ss,RawOk s)(h1:1<=N)(h5:N<=5)(cc:n<9223372036854775807):
  Calls prog 13 #[.slice a n cap,.int .i64 N] w λ e w'=>∃ v,e = .returned v/\w'.ownsRow w.heap.size 36 10 v (Zs5 N ss).length ((Zs5 N ss).flatMap stL)/\Below w.heap.size w w':=by
 obtain⟨i0,hi,co,bK,cp⟩:=info_parts ZtV;obtain⟨HR,HN,af⟩:=ZH3 hr hn aG;have HO:Hid ((w.alloc (.cells #[] 36)).ownsRow w.heap.size 36 10 (.slice (some ⟨w.heap.size,0,none⟩) 0 0) 0 (((ss.take 0).map (Zs1 N)).flatMap stL)):=ZH (ZtA w 36 10);have HK:=ZH ((ZKr w).alloc (.cells #[] 36));have hm:min n 60<=n:=Nat.min_le_left _ _;clear hr hn aG;go_enter func13,ntmps13;go_wp2_with fail;go_loopw [5,6] (λ v i wr=>∃ q:Nat,q<=n/\q<=60/\i = .int .i64 q/\Hid (wr.ownsRow w.heap.size 36 10 v q (((ss.take q).map (Zs1 N)).flatMap stL))/\Hid (Kept w.heap.size w wr)) (λ _ i _=>n-(intOf i).toNat)
 case atStart=>exact⟨0,ZO,ZO,rfl,HO,HK⟩
 case round =>
  clear HO HK;obtain⟨q,hq,hq6,rfl,HO,HK⟩:=hrel;obtain⟨av,cv,rfl⟩:=Zs HO.out;by_cases bS:q<n
  ·by_cases hq60:q<60
   ·obtain⟨s,he⟩:∃ s,ss[q]? = some s:=⟨_,ZX (by rw[←HN.out];exact bS)⟩;have aX:=ZH (af.out s (ZY he));obtain⟨bk,off,rfl,aY,hc⟩:=ZsX (HR.out.below HK.out.below) HN.out he;have c0:=hc 0 _ rfl;have c1:=hc 1 _ rfl;have c2:=hc 2 _ rfl;have c3:=hc 3 _ rfl;have c4:=hc 4 _ rfl;have c5:=hc 5 _ rfl;have c6:=hc 6 _ rfl;have c7:=hc 7 _ rfl;have c8:=hc 8 _ rfl;have c9:=hc 9 _ rfl;simp only[Nat.add_zero] at c0;have dZ:((ss.take (q+1)).map (Zs1 N)).flatMap stL=((ss.take q).map (Zs1 N)).flatMap stL++stL (Zs1 N s):=by
     rw[List.take_add_one,he];simp
    have eo:=ZH dZ;clear he dZ hc;go_wp2_with fail;refine(ZtY s N h1 h5 aX.out wr).mono ?_;rintro _ w1 ⟨rfl,ag⟩;have ci:=HK.out.step ag;have dV:=Ze HO.out ag;have dy:=ZH (dV.alloc (.cells (Zs2 (Zs1 N s)) 36));have bn:=ci.alloc (.cells (Zs2 (Zs1 N s)) 36);have en:Hid (Reads (w1.alloc (.cells (Zs2 (Zs1 N s)) 36)) _ 10 (some ⟨w1.heap.size,0,none⟩) 1 (stL (Zs1 N s))):=ZH (Reads.ao (ZBn w1 36 _) rfl);have eF:=bn.le;have an:=ZH bn
    have cL:Hid (∀ u∈stL (Zs1 N s),u.oneCell'=true):=ZH (λ u hu=>by
     simp[stL] at hu
     rcases hu with rfl | rfl | rfl | rfl | rfl | rfl | rfl | rfl | rfl | rfl <;> rfl)
    clear ag ci dV bn c0 c1 c2 c3 c4 c5 c6 c7 c8 c9
    go_wp2_with (first
     |(at_builtin
       refine Zc _ rfl (.tmp 18) (.tmp 25) _ rfl w.heap.size 36 i0 _ 10 96 underlying24 hi co bK cp rfl ZO (.slice av q cv) q (((ss.take q).map (Zs1 N)).flatMap stL) rfl dy.out _ (some ⟨w1.heap.size,0,none⟩) 1 1 (stL (Zs1 N s)) rfl en.out cL.out ZF ZO eF ?_;intro v7 w7 aV db _;rw[←eo.out] at aV;have eg:Hid (Kept w.heap.size w w7):=ZH (⟨an.out.below.grown db an.out.le (λ g hg=>(Zb dy.out hg).1),ZT an.out.le db.size⟩);have ei:=ZH aV
       clear aV db ))
    go_roundw
    case rel=>exact⟨q+1,ZO,ZO,ZN,ei,eg⟩
    case measure=>simp[intOf];omega
   ·obtain rfl:q=60:=ZO;go_wp2
    go_ret;refine⟨_,rfl,?_,HK.out.below⟩;have e:(Zs5 N ss).length=60:=by unfold Zs5;rw[List.length_map,ZV];have:=HN.out;omega
    rw[e];exact HO.out
  ·obtain rfl:q=n:=ZO;go_wp2
   go_ret;refine⟨_,rfl,?_,HK.out.below⟩;have e:(Zs5 N ss).length=q:=by unfold Zs5;rw[List.length_map,ZV];have:=HN.out;omega
   have e2:ss.take q=ss.take 60:=by rw[ZU (by have:=HN.out;omega),ZU (by have:=HN.out;omega)]
   rw[e];rw[show Zs5 N ss=(ss.take q).map (Zs1 N) from by rw[e2];rfl];exact HO.out
section
section
variable {α : Type}[Inhabited α][DecidableEq α]
theorem Zs8(d:Array α)(x : α):∀ m,x∈Lib.compactUpTo d m↔∃ j,j<m/\d[j]! = x
 | 0=>by simp[Lib.compactUpTo]
 | m+1=>by
  have ih:=Zs8 d x m;rw[Lib.compactUpTo_succ,List.mem_append,ih];constructor
  ·rintro(⟨j,h1,h2⟩ | h)
   ·exact⟨j,ZO,h2⟩
   ·split at h
    ·simp at h;exact⟨m,ZO,h.symm⟩
    ·simp at h
  ·rintro⟨j,h1,h2⟩;by_cases hj:j<m
   ·exact .inl ⟨j,hj,h2⟩
   ·have ez:j=m:=ZO;subst ez;by_cases hk:Lib.keeps d j=true
    ·exact .inr (by simp[hk,h2])
    ·have bO:¬ (j=0∨d[j]! ≠ d[j-1]!):=λ h=>hk (by unfold Lib.keeps;exact decide_eq_true h)
     have h0:j≠0:=λ h=>bO (.inl h)
     have e:d[j]! = d[j-1]! := Classical.byContradiction λ h=>bO (.inr h)
     exact .inl ⟨j-1,ZO,by rw[←e,h2]⟩
theorem Ztv(zs:List α)(x : α):x∈Lib.compact zs↔x∈zs:=by
 unfold Lib.compact;rw[Zs8];constructor
 ·rintro⟨j,h1,h2⟩;have e:zs.toArray[j]! = zs[j]:=by simp[h1]
  rw[e] at h2;subst h2;exact List.getElem_mem h1
 ·intro h;obtain⟨j,h1,h2⟩:=List.getElem_of_mem h;exact⟨j,h1,by simp[h1,h2]⟩
end
theorem Zs9{s:ByteArray}{ss:List ByteArray}:s∈ZaS ss↔s∈ss:=by
 unfold ZaS;simp only[List.mem_map,List.mem_mergeSort];constructor
 ·rintro⟨a,⟨b,hb,rfl⟩,rfl⟩;rwa [Ztl]
 ·intro h;exact⟨_,⟨s,h,rfl⟩,Ztl s⟩
theorem Ztj{s:ByteArray}{ss:List ByteArray}:s∈Za1 ss↔s∈ss:=by
 unfold Za1;simp only[List.mem_map,Ztv];constructor
 ·rintro⟨a,⟨b,hb,rfl⟩,rfl⟩;rwa [Ztl]
 ·intro h;exact⟨_,⟨s,h,rfl⟩,Ztl s⟩
theorem Ztq{ws:List Ev}{key v:ByteArray}{aH:Nat}:v∈Zhy ws key aH↔∃ e∈ws,e.key=key/\e.label=aH/\e.kind≠3/\e.value=v:=by
 unfold Zhy Z0 Zce;rw[Ztj,Zs9];simp only[List.mem_map,List.mem_filter,Bool.and_eq_true,decide_eq_true_eq,Bool.not_eq_true',decide_eq_false_iff_not];constructor
 ·rintro⟨e,⟨⟨h1,h2,h3⟩,h4⟩,h5⟩;exact⟨e,h1,h2,h3,h4,h5⟩
 ·rintro⟨e,h1,h2,h3,h4,h5⟩;exact⟨e,⟨⟨h1,h2,h3⟩,h4⟩,h5⟩
theorem Ztn{l:List Ev}{C:Con}:C∈Zc1 l↔∃ e∈ZcJ l,C=Zbd e.key (ZcQ l (ZcJ l)):=by
 unfold Zc1 Zo7;simp only[List.mem_map,Ztj,Zs9];constructor
 ·rintro⟨k,⟨e,he,rfl⟩,rfl⟩;exact⟨e,he,rfl⟩
 ·rintro⟨e,he,rfl⟩;exact⟨_,⟨e,he,rfl⟩,rfl⟩
section
variable {β : Type}{T:List (ByteArray × β)}{k a:ByteArray}{x y : β}
theorem Ztr(a:ByteArray)(y : β)(T:List (ByteArray × β))(k:ByteArray)(x : β):Zei ((a,y)::T) k x=if a=k then(k,x)::T else(a,y)::Zei T k x:=by
 unfold Zei atK;rw[List.findIdx?_cons];by_cases h:a=k
 ·simp[h]
 ·simp only[h,decide_false,Bool.false_eq_true,if_false]
  cases List.findIdx? (λ p=>decide (p.1=k)) T <;> simp
theorem Zto(a:ByteArray)(y : β)(T:List (ByteArray × β))(k:ByteArray):Zeb ((a,y)::T) k=if a=k then T else(a,y)::Zeb T k:=by
 unfold Zeb atK;rw[List.findIdx?_cons];by_cases h:a=k
 ·simp[h]
 ·simp only[h,decide_false,Bool.false_eq_true,if_false]
  cases List.findIdx? (λ p=>decide (p.1=k)) T <;> simp
theorem ZtF(a:ByteArray)(y : β)(T:List (ByteArray × β))(k:ByteArray):ZaH ((a,y)::T) k=if a=k then some y else ZaH T k:=by
 unfold ZaH;rw[List.find?_cons];by_cases h:a=k
 ·simp[h]
 ·simp[h]
theorem Ztc{T:List (ByteArray × β)}{k:ByteArray}{x : β}(h:(k,x)∈T):k∈T.map (·.1):=List.mem_map_of_mem (f:=(·.1)) h
theorem Ztb:∀ {T:List (ByteArray × β)},(T.map (·.1)).Nodup->(ZaH T k=some x↔(k,x)∈T)
 | [],_=>by simp[ZaH]
 |(a,y)::T,h=>by
  rw[List.map_cons,List.nodup_cons] at h;rw[ZtF,List.mem_cons];by_cases e:a=k
  ·subst e;rw[if_pos rfl];constructor
   ·intro h';injection h' with h';exact .inl (by rw[h'])
   ·rintro(h' | h')
    ·injection h' with _ h';rw[h']
    ·exact absurd (Ztc h') h.1
  ·rw[if_neg e,Ztb h.2];exact⟨λ h' => .inr h',λ h'=>h'.elim (λ h'=>by injection h' with h' _;exact absurd h'.symm e) id⟩
theorem Zte{k':ByteArray}{x' : β}:∀ {T:List (ByteArray × β)},(T.map (·.1)).Nodup->((k',x')∈Zei T k x↔(k'=k/\x'=x)∨(k'≠k/\(k',x')∈T))
 | [],_=>by simp[Zei,atK]
 |(a,y)::T,h=>by
  rw[List.map_cons,List.nodup_cons] at h;rw[Ztr];by_cases e:a=k
  ·subst e;rw[if_pos rfl,List.mem_cons,List.mem_cons];constructor
   ·rintro(h' | h')
    ·injection h' with h1 h2;exact .inl ⟨h1,h2⟩
    ·exact .inr ⟨λ e=>h.1 (e▸Ztc h'),.inr h'⟩
   ·rintro(⟨h1,h2⟩|⟨h1,h2⟩)
    ·exact .inl (by rw[h1,h2])
    ·rcases h2 with h2 | h2
     ·injection h2 with h2 _;exact absurd h2 h1
     ·exact .inr h2
  ·rw[if_neg e,List.mem_cons,Zte h.2,List.mem_cons];constructor
   ·rintro(h' | h' | ⟨h1,h2⟩)
    ·refine .inr ⟨?_,.inl h'⟩;injection h' with h1 _;rw[h1];exact e
    ·exact .inl h'
    ·exact .inr ⟨h1,.inr h2⟩
   ·rintro(h' | ⟨h1,h2 | h2⟩)
    ·exact .inr (.inl h')
    ·exact .inl h2
    ·exact .inr (.inr ⟨h1,h2⟩)
theorem Zts:∀ {T:List (ByteArray × β)},(T.map (·.1)).Nodup->((Zei T k x).map (·.1)).Nodup
 | [],_=>by simp[Zei,atK]
 |(a,y)::T,h=>by
  rw[List.map_cons,List.nodup_cons] at h;rw[Ztr];by_cases e:a=k
  ·subst e;rw[if_pos rfl,List.map_cons,List.nodup_cons];exact h
  ·rw[if_neg e,List.map_cons,List.nodup_cons];refine⟨λ h'=>?_,Zts h.2⟩;obtain⟨⟨k',x'⟩,h1,h2⟩:=List.mem_map.1 h';simp only at h2;subst h2;rcases(Zte h.2).1 h1 with ⟨h3,_⟩|⟨_,h3⟩
   ·exact e h3
   ·exact h.1 (Ztc h3)
theorem Zta{k':ByteArray}{x' : β}:∀ {T:List (ByteArray × β)},(T.map (·.1)).Nodup->((k',x')∈Zeb T k↔k'≠k/\(k',x')∈T)
 | [],_=>by simp[Zeb,atK]
 |(a,y)::T,h=>by
  rw[List.map_cons,List.nodup_cons] at h;rw[Zto];by_cases e:a=k
  ·subst e;rw[if_pos rfl,List.mem_cons];constructor
   ·intro h';exact⟨λ e=>h.1 (e▸Ztc h'),.inr h'⟩
   ·rintro⟨h1,h2 | h2⟩
    ·injection h2 with h2 _;exact absurd h2 h1
    ·exact h2
  ·rw[if_neg e,List.mem_cons,Zta h.2,List.mem_cons];constructor
   ·rintro(h' | ⟨h1,h2⟩)
    ·refine⟨?_,.inl h'⟩;injection h' with h1 _;rw[h1];exact e
    ·exact⟨h1,.inr h2⟩
   ·rintro⟨h1,h2 | h2⟩
    ·exact .inl h2
    ·exact .inr ⟨h1,h2⟩
theorem Ztp:∀ {T:List (ByteArray × β)},(T.map (·.1)).Nodup->((Zeb T k).map (·.1)).Nodup
 | [],_=>by simp[Zeb,atK]
 |(a,y)::T,h=>by
  rw[List.map_cons,List.nodup_cons] at h;rw[Zto];by_cases e:a=k
  ·rw[if_pos e];exact h.2
  ·rw[if_neg e,List.map_cons,List.nodup_cons];refine⟨λ h'=>?_,Ztp h.2⟩;obtain⟨⟨k',x'⟩,h1,h2⟩:=List.mem_map.1 h';simp only at h2;subst h2;exact h.1 (Ztc ((Zta h.2).1 h1).2)
end
def RowK(k:ByteArray)(l:List Ev):Prop:=∀ e∈l,e.key=k/\(e.kind=1∨e.kind=3∨e.kind=4)
structure KInv(K:List (ByteArray × List Ev))(log:List Ev):Prop where
 once:(K.map (·.1)).Nodup
 row:∀ p∈K,RowK p.1 p.2/\∀ e∈p.2,e∈log
section
variable {K:List (ByteArray × List Ev)}{log l:List Ev}{e:Ev}{k:ByteArray}
theorem RowK.a8(h:RowK k l){x:Ev}:x∈ZcJ l↔x∈l/\x.kind=1:=by
 have hn:∀ y,(l.any λ a=>decide (a.kind=2)&&ZdS a y&&y.below a)=false:=λ y=>by
  rw[List.any_eq_false];intro a ha;have:a.kind≠2:=by have:=(h a ha).2;omega
  simp[this]
 simp only[ZcJ,List.mem_filter,ZbT,hn,Bool.not_false,Bool.and_true,decide_eq_true_eq]
theorem RowK.counts(h:RowK k l){x:Ev}:x∈ZcQ l (ZcJ l)↔x∈l/\(x.kind=3∨x.kind=4)/\ZbP (ZcJ l) x=true:=by
 have hn:∀ y,ZfN l y=false:=λ y=>by
  unfold ZfN;rw[List.any_eq_false];intro a ha;have:a.kind≠5:=by have:=(h a ha).2;omega
  simp[this]
 simp only[ZcQ,List.mem_filter,ZeY,hn,Bool.not_false,Bool.and_true];by_cases h3:x.kind=3
 ·simp[h3]
 ·by_cases h4:x.kind=4
  ·simp[h4]
  ·simp[h3,h4]
theorem RowK.ac(h:RowK e.key l)(he:e.Ok):RowK e.key (ZaP l e):=by
 have h5:=he.edit.kind5;have h1:=he.edit.kind1;intro x hx;unfold ZaP at hx;split at hx
 ·rcases List.mem_append.1 hx with hx | hx
  ·exact h x hx
  ·simp at hx;subst hx;exact⟨rfl,ZO⟩
 ·split at hx
  ·exact h x (Zd8 (List.mem_filter.1 hx).1)
  ·split at hx
   ·split at hx
    ·rcases List.mem_append.1 hx with hx | hx
     ·exact h x (Zd8 hx)
     ·simp at hx;subst hx;exact⟨rfl,ZO⟩
    ·exact h x hx
   ·split at hx
    ·exact h x (Zd8 hx)
    ·split at hx
     ·rcases List.mem_append.1 hx with hx | hx
      ·exact h x (Zd8 hx)
      ·simp at hx;subst hx;exact⟨rfl,ZO⟩
     ·exact h x hx
theorem KInv.old(h:KInv K log)(k:ByteArray):RowK k ((ZaH K k).getD [])/\∀ x∈(ZaH K k).getD [],x∈log:=by
 cases hg:ZaH K k with
 | none=>exact⟨λ x hx=>(by simp at hx),λ x hx=>(by simp at hx)⟩
 | some l=>exact h.row _ ((Ztb h.once).1 hg)
theorem KInv.apply(h:KInv K log)(he:e.Ok):KInv (applyN K e) (log++[e]):=by
 obtain⟨h1,h2⟩:=h.old e.key;unfold applyN;split
 ·exact⟨Ztp h.once,λ p hp=>⟨(h.row p ((Zta h.once).1 hp).2).1,λ x hx=>List.mem_append_left _ ((h.row p ((Zta h.once).1 hp).2).2 x hx)⟩⟩
 ·refine⟨Zts h.once,λ p hp=>?_⟩;rcases(Zte h.once).1 hp with ⟨e1,e2⟩|⟨_,hp⟩
  ·rw[e1,e2];refine⟨h1.ac he,λ x hx=>?_⟩;rcases ZpV hx with hx | rfl
   ·exact List.mem_append_left _ (h2 x hx)
   ·simp
  ·exact⟨(h.row p hp).1,λ x hx=>List.mem_append_left _ ((h.row p hp).2 x hx)⟩
theorem KInv.fold:∀ {l:List Ev} {K:List (ByteArray × List Ev)} {log:List Ev},KInv K log->(∀ x∈l,x.Ok)->KInv (l.foldl applyN K) (log++l)
 | [],K,log,h,_=>by simpa using h
 | e::l,K,log,h,he=>by
  have:=KInv.fold (h.apply (he e ZM)) λ x hx=>he x (List.mem_cons_of_mem _ hx)
  simpa using this
theorem KInv.of(h:∀ x∈l,x.Ok):KInv (l.foldl applyN []) l:=by
 have:=KInv.fold (K:=[]) (log:=[]) ⟨ZM,ZM⟩ h;simpa using this
theorem KInv.mem(h:KInv K log){C:Con}:C∈listN K↔∃ p∈K,(∃ x∈p.2,x.kind=1)/\C=Zbd p.1 (ZcQ p.2 (ZcJ p.2)):=by
 unfold listN;rw[List.mem_flatMap];constructor
 ·rintro⟨k,hk,hC⟩;rw[Zs9] at hk;obtain⟨p,hp,rfl⟩:=List.mem_map.1 hk;rw[(Ztb (x:=p.2) h.once).2 hp,Option.getD_some,Ztn] at hC;obtain⟨x,hx,rfl⟩:=hC;have hr:=(h.row p hp).1;obtain⟨h1,h2⟩:=hr.a8.1 hx;exact⟨p,hp,⟨x,h1,h2⟩,by rw[(hr x h1).1]⟩
 ·rintro⟨p,hp,⟨x,h1,h2⟩,rfl⟩;refine⟨p.1,Zs9.2 (List.mem_map_of_mem hp),?_⟩;rw[(Ztb (x:=p.2) h.once).2 hp,Option.getD_some,Ztn];have hr:=(h.row p hp).1;exact⟨x,hr.a8.2 ⟨h1,h2⟩,by rw[(hr x h1).1]⟩
def Ztx(kind:Nat)(key:ByteArray)(label:Nat)(value:ByteArray)(cs:List Con):Prop :=
 (kind≠2->∃ C∈cs,C.key=key)/\∀ C∈cs,C.key=key->kind≠2/\(kind=3->(if label=0 then C.f0 else C.f1)=value)/\(kind=4->value∈if label=0 then C.s0 else C.s1)/\(kind=5->value ∉ if label=0 then C.s0 else C.s1)
theorem Zs4{kk:Nat}{f:Ev->Bool}{x:Ev}:x∈Zbn l e kk f↔x∈l/\(x.kind≠kk∨f x=false∨x.below e=false):=by
 unfold Zbn Zhr;rw[List.mem_filter]
 cases f x <;> cases x.below e <;> simp
theorem ZtC(h:KInv K log)(he:e.Ok)(hb:∀ a∈log,a.below e=true){L P:Nat}(hc:Zco L P (listN K) e.kind e.key e.label e.value=0):Ztx e.kind e.key e.label e.value (listN (applyN K e)):=by
 have h':=h.apply he;have h5:=he.edit.kind5;have h1:=he.edit.kind1;obtain⟨l0,bQ⟩:∃ l,l=(ZaH K e.key).getD []:=⟨_,rfl⟩;obtain⟨dk,bo⟩:=h.old e.key;rw[←bQ] at dk bo;have aY:∀ x∈l0,x.below e=true:=λ x hx=>hb x (bo x hx)
 have dI:applyN K e=if (ZaP l0 e).length=0 then Zeb K e.key else Zei K e.key (ZaP l0 e):=by rw[bQ];rfl
 have bT:=dk.ac he;have hC:∀ C∈listN (applyN K e),C.key=e.key->(∃ x∈ZaP l0 e,x.kind=1)/\C=Zbd e.key (ZcQ (ZaP l0 e) (ZcJ (ZaP l0 e))):=λ C hC hk=>by
  obtain⟨p,hp,hx,rfl⟩:=h'.mem.1 hC;have bO:p.1=e.key:=hk;rw[dI] at hp;split at hp
  ·exact absurd bO ((Zta h.once).1 hp).1
  ·rcases(Zte h.once).1 hp with ⟨e1,e2⟩|⟨h1,_⟩
   ·rw[e2] at hx ⊢;exact⟨hx,by rw[bO]⟩
   ·exact absurd bO h1
 have hE:(∃ x∈ZaP l0 e,x.kind=1)->∃ C∈listN (applyN K e),C.key=e.key:=λ⟨x,hx,h1⟩=>by
  refine⟨Zbd e.key (ZcQ (ZaP l0 e) (ZcJ (ZaP l0 e))),h'.mem.2 ⟨(e.key,ZaP l0 e),?_,⟨x,hx,h1⟩,rfl⟩,rfl⟩;rw[dI,if_neg (λ h0=>by rw[List.length_eq_zero_iff.1 h0] at hx;cases hx)];exact(Zte h.once).2 (.inl ⟨rfl,rfl⟩)
 have ce:e.kind≠1->∃ x∈l0,x.kind=1:=λ hk=>by
  unfold Zco at hc;split at hc
  ·rw[if_neg hk] at hc;cases hc
  ·rename_i C hf;have hm:=List.mem_of_find?_eq_some hf;have bn:C.key=e.key:=by simpa using List.find?_some hf
   obtain⟨p,hp,hx,rfl⟩:=h.mem.1 hm;have eA:p.1=e.key:=bn;have hg:=(Ztb h.once).2 (show(e.key,p.2)∈K by rw[←eA];exact hp);rw[bQ,hg];exact hx
 have aq:(∃ x∈l0,x.kind=1)->Zcv l0 e=true:=λ⟨x,hx,h1⟩=>by
  unfold Zcv;rw[List.any_eq_true];exact⟨x,hx,by simp[h1,aY x hx]⟩
 have dT:∀ x∈ZaP l0 e,x.kind=1->x∈l0->ZbP (ZcJ (ZaP l0 e)) e=true:=λ x hx h1 h2=>by
  unfold ZbP;rw[List.any_eq_true];exact⟨x,bT.a8.2 ⟨hx,h1⟩,by simp[h1,ZdS,(dk x h2).1,aY x h2]⟩
 have bC:e.kind=1∨e.kind=2∨e.kind=3∨e.kind=4∨e.kind=5:=ZO;rcases bC with hk | hk | hk | hk | hk
 ·
  have hw:ZaP l0 e=l0++[e]:=by unfold ZaP;rw[if_pos hk]
  refine⟨λ _=>hE ⟨e,by rw[hw];simp,hk⟩,λ C _ _=>⟨ZO,ZO,ZO,ZO⟩⟩
 ·
  have hw:∀ x,x ∉ ZaP l0 e:=λ x hx=>by
   unfold ZaP Zf2 at hx;rw[if_neg ZO,if_pos hk,List.mem_filter] at hx;have hn:∀ y∈Zbn l0 e 1 (λ _=>true),y.kind≠1:=λ y hy=>by
    obtain⟨h1,h2⟩:=Zs4.1 hy;have:=aY y h1;simp[this] at h2;exact h2
   have bi:=hn x hx.1;have cG:=hx.2;simp only[bi,decide_false,Bool.false_or] at cG;unfold Zcv at cG;rw[List.any_eq_true] at cG;obtain⟨y,hy,eK⟩:=cG;simp[hn y hy] at eK
  refine⟨λ h=>absurd hk h,λ C h1 h2=>?_⟩;obtain⟨⟨x,hx,_⟩,_⟩:=hC C h1 h2;exact absurd hx (hw x)
 ·
  have hw:ZaP l0 e=Zbn l0 e 3 (ZdG e)++[e]:=by
   unfold ZaP;rw[if_neg ZO,if_neg ZO,if_pos hk,if_pos (aq (ce ZO))]
  obtain⟨x,hx,bi⟩:=ce ZO;have bJ:x∈ZaP l0 e:=by rw[hw];exact List.mem_append_left _ (Zs4.2 ⟨hx,.inl ZO⟩)
  refine⟨λ _=>hE ⟨x,bJ,bi⟩,λ C h1 h2=>⟨ZO,λ _=>?_,ZO,ZO⟩⟩;obtain⟨_,rfl⟩:=hC C h1 h2;have bh:=(he.edit.long ZO).1;have dn:Zm (ZcQ (ZaP l0 e) (ZcJ (ZaP l0 e))) e.key e.label=[e]:=by
   unfold Zm Zce ZcQ;obtain⟨P,hP⟩:∃ P,P=ZeY (ZaP l0 e) (ZcJ (ZaP l0 e)):=⟨_,rfl⟩;have h3:P e=true:=by
    rw[hP];unfold ZeY;rw[if_pos hk];exact dT x bJ bi hx
   rw[←hP,hw,List.filter_filter,List.filter_filter,List.filter_append];have h0:(Zbn l0 e 3 (ZdG e)).filter (λ a=>decide (a.kind=3)&&(decide (a.key=e.key)&&decide (a.label=e.label))&&P a)=[]:=by
    rw[List.filter_eq_nil_iff];intro a ha;obtain⟨h3,h4⟩:=Zs4.1 ha;have:=aY a h3;simp only[this,Bool.true_eq_false,or_false,ZdG,decide_eq_false_iff_not] at h4;intro hh;simp only[Bool.and_eq_true,decide_eq_true_eq] at hh;rcases h4 with h4 | h4
    ·exact h4 hh.1.1
    ·exact h4 hh.1.2.2
   rw[h0];simp[h3,hk]
  have al:Zck (ZcQ (ZaP l0 e) (ZcJ (ZaP l0 e))) e.key e.label=e.value:=by
   unfold Zck;rw[dn];have:Zlm (ZdJ [e])=0:=by
    unfold Zlm ZdJ;simp[ZfW,mx]
   rw[this];rfl
  rcases(by omega:e.label=0∨e.label=1) with hl | hl
  ·rw[if_pos hl];rw[hl] at al;exact al
  ·rw[if_neg ZO];rw[hl] at al;exact al
 ·
  have hw:ZaP l0 e=Zbn l0 e 4 (ZbY e)++[e]:=by
   unfold ZaP;rw[if_neg ZO,if_neg ZO,if_neg ZO,if_neg ZO,if_pos (aq (ce ZO))]
  obtain⟨x,hx,bi⟩:=ce ZO;have bJ:x∈ZaP l0 e:=by rw[hw];exact List.mem_append_left _ (Zs4.2 ⟨hx,.inl ZO⟩)
  refine⟨λ _=>hE ⟨x,bJ,bi⟩,λ C h1 h2=>⟨ZO,ZO,λ _=>?_,ZO⟩⟩;obtain⟨_,rfl⟩:=hC C h1 h2;have bh:=(he.edit.long ZO).1;have aP:e.value∈Zhy (ZcQ (ZaP l0 e) (ZcJ (ZaP l0 e))) e.key e.label :=
   Ztq.2 ⟨e,bT.counts.2 ⟨by rw[hw];simp,.inr hk,dT x bJ bi hx⟩,rfl,rfl,ZO,rfl⟩
  rcases(by omega:e.label=0∨e.label=1) with hl | hl
  ·rw[if_pos hl];rw[hl] at aP;exact aP
  ·rw[if_neg ZO];rw[hl] at aP;exact aP
 ·
  have hw:ZaP l0 e=Zbn l0 e 4 (ZbY e):=by
   unfold ZaP;rw[if_neg ZO,if_neg ZO,if_neg ZO,if_pos hk]
  obtain⟨x,hx,bi⟩:=ce ZO;have bJ:x∈ZaP l0 e:=by rw[hw];exact Zs4.2 ⟨hx,.inl ZO⟩
  refine⟨λ _=>hE ⟨x,bJ,bi⟩,λ C h1 h2=>⟨ZO,ZO,ZO,λ _=>?_⟩⟩;obtain⟨_,rfl⟩:=hC C h1 h2;have bh:=(he.edit.long ZO).1;have aP:e.value ∉ Zhy (ZcQ (ZaP l0 e) (ZcJ (ZaP l0 e))) e.key e.label:=λ aP=>by
   obtain⟨y,hy,y1,y2,y3,y4⟩:=Ztq.1 aP;obtain⟨z1,z2,z3⟩:=bT.counts.1 hy;rw[hw] at z1;obtain⟨z4,z5⟩:=Zs4.1 z1;have:=aY y z4;simp only[this,Bool.true_eq_false,or_false,ZbY,y2,y4,decide_true,Bool.and_true] at z5;omega
  rcases(by omega:e.label=0∨e.label=1) with hl | hl
  ·rw[if_pos hl];rw[hl] at aP;exact aP
  ·rw[if_neg ZO];rw[hl] at aP;exact aP
end
end
section
section
variable {c:Cfg}{B B':Bd}{m b r k:Nat}{x y:WS}{s:St}{a:PN}
theorem NodeInv.a9(h:NodeInv c r B b a)(hr:r<5)(hb:tot B.made<=100)(hs:EditOk s.ek s.key s.label s.value):
  (∃ e:Ev,e.Ok/\a.s.up=true/\(Zep c r a s.ek s.key s.label s.value).2=0/\(Zep c r a s.ek s.key s.label s.value).1.s.up=true/\(Zep c r a s.ek s.key s.label s.value).1.s.log=a.s.log++[e]/\e.r=r /\
   Ztx s.ek s.key s.label s.value (listN (Zep c r a s.ek s.key s.label s.value).1.s.book)) ∨
  ((Zep c r a s.ek s.key s.label s.value).2=18/\(Zep c r a s.ek s.key s.label s.value).1.s.up=false) ∨
  ((Zep c r a s.ek s.key s.label s.value).2≠0/\(Zep c r a s.ek s.key s.label s.value).1.s=a.s):=by
 unfold Zep ZdZ;simp only;by_cases hu:a.s.up=true
 ·rw[if_pos hu];by_cases hk:Zco c.l c.p (listN a.s.book) s.ek s.key s.label s.value=0
  ·rw[if_pos hk];by_cases hw:a.s.wait.length<c.q
   ·rw[if_pos hw];have aG:=h.made hu hr hb hs;have hl:=h.log hu;obtain⟨e,cg⟩:∃ e,e=madeEv r a.s s.ek s.key s.label s.value:=⟨_,rfl⟩;rw[←cg] at aG ⊢;have cz:=ZcF a.s (Zae r e);by_cases h0:(ZS a.s (Zae r e)).2=0
    ·rw[if_pos h0];have cF:(ZS a.s (Zae r e)).1.up=true:=by
      unfold ZS at h0 ⊢;split
      ·exact hu
      ·rename_i h1;rw[if_neg h1] at h0;cases h0
     refine .inl ⟨e,aG,hu,rfl,cF,?_,by rw[cg];rfl,?_⟩
     ·unfold ZiI ZcR;simp only[cz.1]
     ·have hK:=KInv.of hl.ok;rw[←(h.up hu).book] at hK;have aY:∀ y∈a.s.log,y.below e=true:=λ y hy=>by
       have h1:=(hl.row y.r).mem (Zjl.2 ⟨hy,rfl⟩);have h2:e.ctx=a.s.clk:=by rw[cg];rfl
       unfold Ev.below Clk.has;rw[h2,h.clk hu];unfold cnt;exact decide_eq_true ⟨h1.1,ZO⟩
      have bA:Zco c.l c.p (listN a.s.book) e.kind e.key e.label e.value=0:=by rw[cg];exact hk
      have:=ZtC hK aG aY bA;have e1:(ZiI (ZS a.s (Zae r e)).1 e).book=applyN a.s.book e:=by
       unfold ZiI ZcR;simp only[cz.2.2.1,List.foldl_cons,List.foldl_nil]
      rw[e1];rw[cg] at this ⊢;exact this
    ·rw[if_neg h0];refine .inr (.inl ⟨(ZfC _ _).resolve_left h0,?_⟩);unfold ZS at h0 ⊢;split
     ·rename_i h1;rw[if_pos h1] at h0;exact absurd rfl h0
     ·rfl
   ·rw[if_neg hw];exact .inr (.inr ⟨ZM,rfl⟩)
  ·rw[if_neg hk];exact .inr (.inr ⟨hk,rfl⟩)
 ·rw[if_neg hu];exact .inr (.inr ⟨ZM,rfl⟩)
end
end
section
structure Loc(own:Own)(w:World)(b:Nat)(c:Cfg)(k:Nat)(v:Value)(ss:List St):Prop where
 blk:Blk w b 23 (Zal c)
 mine:own b=0
 row:∃ B,w.ownsRow B 36 10 v ss.length (ss.flatMap stL)
 loose:∀ g,v.ownBlock=some g->own g=k
section
variable {own own':Own}{t p q b k:Nat}{w0 wr w':World}{c:Cfg}{B:Bd}{x:WS}{v:Value}{ss:List St}{s:St}{T:Nat->Prop}
theorem Loc.upd(h:Loc own wr b c k v ss)(hu:Upd T own own' wr w')(h0:¬ T 0)(hk:¬ T k):Loc own' w' b c k v ss:=by
 obtain⟨B,hr⟩:=h.row;refine⟨h.blk.upd hu (by rw[h.mine];exact h0),(hu.old _ h.blk.lt).trans h.mine,⟨B,Zh hr λ g hg hl=>hu.same g hl (by rw[h.loose g hg];exact hk)⟩,λ g hg=>(hu.old g (Zb hr hg).2).trans (h.loose g hg)⟩
theorem Loc.below(h:Loc own wr b c k v ss)(hf:Fresh own wr)(hb:Below wr.heap.size wr w'):Loc own w' b c k v ss:=h.upd (ZUb (T:=λ _=>False) hb hf) (λ h=>h) (λ h=>h)
theorem ZtU{α : Type}{L : α -> List Value}(hL:∀ x,(L x).length=10):∀ (ss:List α) (q:Nat) (s : α),ss[q]? = some s->∀ j u,(L s)[j]? = some u->(ss.flatMap L)[q*10+j]? = some u:=by
 intro ss
 induction ss with
 | nil=>intro q s h;simp at h
 | cons x ss ih =>
  intro q s h j u hj;have hl:=hL x;rw[List.flatMap_cons]
  cases q with
  | zero =>
   simp at h;subst h;have:j<10:=by rw[←hl];exact(ZZ.1 hj).1
   rw[List.getElem?_append_left (by rw[hl];omega),Nat.zero_mul,Nat.zero_add];exact hj
  | succ q =>
   rw[List.getElem?_append_right (by rw[hl];omega),hl,show(q+1)*10+j-10=q*10+j by omega];exact ih q s (by simpa using h) j u hj
theorem Loc.step(h:Loc own wr b c k v ss)(hq:ss[q]? = some s):∃ g cap,v = .slice (some ⟨g,0,none⟩) ss.length cap/\g<wr.heap.size/\∀ j u,(stL s)[j]? = some u->wr.cell? ⟨g,q*10+j,none⟩=some u:=by
 have de:q<ss.length:=(ZZ.1 hq).1;obtain⟨B,hr⟩:=h.row;obtain⟨a,cap,rfl⟩:=Zs hr;obtain⟨g,rfl,ar,hc⟩:=Zby hr ZO;refine⟨g,cap,rfl,ar,λ j u hj=>?_⟩;have h1:=ZtU (L:=stL) (λ _=>rfl) ss q s hq j u hj;exact(hc _ (ZZ.1 h1).1).trans h1
theorem Loc.slice(h:Loc own wr b c k v ss):∃ a cap,v = .slice a ss.length cap:=by
 obtain⟨B,hr⟩:=h.row;exact Zs hr
theorem Loc.make(hb:Blk wr b 23 (Zal c))(ho:own b=0)(hf:Fresh own wr)(hr:w'.ownsRow wr.heap.size 36 10 v ss.length (ss.flatMap stL))(aY:Below wr.heap.size wr w'):Loc own w' b c 0 v ss :=
 ⟨hb.ob aY,ho,⟨_,hr⟩,λ g hg=>hf g (Zb hr hg).1⟩
theorem ZtM(n:Nat)(ss:List RawSt):(Zs5 n ss).length<=60:=by unfold Zs5;rw[List.length_map,ZV];omega
theorem ZtN{ss:List RawSt}(hc:c.Ok)(h:∀ s∈ss,RawOk s):∀ s∈Zs5 c.n ss,StOk c s:=by
 intro s hs;unfold Zs5 at hs;obtain⟨r,hr,rfl⟩:=List.mem_map.1 hs;exact ZtI hc (h r (List.mem_of_mem_take hr))
end
end
theorem ZtJ{c:Cfg}(hc:c.Ok)(s:RawSt)(hk:(Zs1 c.n s).kind=0):(Zs1 c.n s).r<c.n:=by
 rcases Ztw hc s with h | h
 ·exact h
 ·have h1:Zs3 s=0:=hk;omega
theorem ZtH{c:Cfg}(hc:c.Ok){ss:List RawSt}:∀ s∈Zs5 c.n ss,s.kind=0->s.r<c.n:=by
 intro s hs hk;unfold Zs5 at hs;obtain⟨r,_,rfl⟩:=List.mem_map.1 hs;exact ZtJ hc r hk
theorem WInv.seen{c:Cfg}{B:Bd}{m b:Nat}{x:WS}{s:St}(h:WInv c B m b x)(hc:c.Ok)(hm:m<=99)(hs:StOk c s)(hk:s.kind=0)(hr:s.r<c.n):
  ((Zab c x s).2=0/\((Zab c x s).1.nodes s.r).s.up=true/\Ztx s.ek s.key s.label s.value (listN ((Zab c x s).1.nodes s.r).s.book)) ∨
  ((Zab c x s).2=18/\((Zab c x s).1.nodes s.r).s.up=false)∨((Zab c x s).2≠0/\((Zab c x s).1.nodes s.r).s=(x.nodes s.r).s):=by
 have hn5:=hc.n5;have e0:Zab c x s=(⟨Zch x.nodes s.r (Zep c s.r (x.nodes s.r) s.ek s.key s.label s.value).1,x.hub,x.link⟩,(Zep c s.r (x.nodes s.r) s.ek s.key s.label s.value).2):=by
  unfold Zab;rw[if_neg ZO,if_neg ZO,if_neg ZO,if_pos hk]
 rw[e0];simp only[Zdj];rcases(h.nodes _ hr).a9 (c:=c) ZO (ZT h.sum ZO) hs.edit with ⟨e,_,_,g3,g4,_,_,g7⟩ | h1 | h1
 ·exact .inl ⟨g3,g4,g7⟩
 ·exact .inr (.inl h1)
 ·exact .inr (.inr h1)
theorem Ztd{w:World}{B n sz:Nat}{e:TypeId}{v:Value}{xs:List Value}(h:w.ownsRow B e sz v n xs):n<=9223372036854775807:=by
 rcases h.2 with ⟨_,h0⟩|⟨_,c0,_,_,_,_,h1,h2,_⟩
 ·omega
 ·simp only[maxLen] at h2;omega
theorem ZtX:prog.plainKey 9=true:=ZK
theorem ZtS:prog.cellsOf 4=1:=ZK
theorem ZtT:prog.cellsOf 9=1:=ZK
theorem Zti{xs:Array Value}{o:Nat}{v:Value}(w:World)(h:xs[o]? = some v):(Go.part 9 xs o).run prog w = .ok v w:=run_part_plain (P:=prog) (w:=w) ZtX h
theorem ZtE(d:Nat)(a:ByteArray)(w:World):(Op.equalIn (d+1) 9 (.string a) (.string a)).run prog w = .ok (decide True) w:=by
 rw[run_equalIn_string w d 9 a a underlying9];simp
theorem Zty(a b:Bool)(w:World):(Op.equalIn 10000 61 (.agg #[.bool a,.bool b]) (.agg #[.bool a,.bool b])).run prog w = .ok true w:=by
 obtain⟨i,hi⟩:=info_of_underlying underlying4;rw[show 10000=9998+1+1 from rfl,run_equalIn_array w _ _ _ underlying61 hi,ZtS];simp only[List.range,List.range.loop];refine(Zcx (Zkg w (v := .bool a) rfl) (Zkg w (v := .bool a) rfl) (ZrI _ a a w) (Zcx (Zkg w (v := .bool b) rfl) (Zkg w (v := .bool b) rfl) (ZrI _ b b w) ZmU)).trans ?_;simp
theorem Ztz(a b:ByteArray)(w:World):(Op.equalIn 10000 62 (.agg #[.string a,.string b]) (.agg #[.string a,.string b])).run prog w = .ok true w:=by
 obtain⟨i,hi⟩:=info_of_underlying underlying9;rw[show 10000=9998+1+1 from rfl,run_equalIn_array w _ _ _ underlying62 hi,ZtT];simp only[List.range,List.range.loop];refine(Zcx (Zti w (v := .string a) rfl) (Zti w (v := .string a) rfl) (ZtE _ a w) (Zcx (Zti w (v := .string b) rfl) (Zti w (v := .string b) rfl) (ZtE _ b w) ZmU)).trans ?_;simp
theorem Ztm{w:World}{B:Nat}{v:Value}{ps:List (Con × Value × Value)}(h:ConRows B w v ps){q:Nat}{p:Con × Value × Value}(hq:ps[q]? = some p):
  ∃ g cap a0 k0 a1 k1,v = .slice (some ⟨g,0,none⟩) ps.length cap/\g<w.heap.size/\w.cell? ⟨g,q*7,none⟩=some (.string p.1.key)/\w.cell? ⟨g,q*7+1,none⟩=some (.bool p.1.h0)/\w.cell? ⟨g,q*7+2,none⟩=some (.bool p.1.h1) /\
   w.cell? ⟨g,q*7+3,none⟩=some (.string p.1.f0)/\w.cell? ⟨g,q*7+4,none⟩=some (.string p.1.f1)/\w.cell? ⟨g,q*7+5,none⟩=some (.slice a0 p.1.s0.length k0)/\w.cell? ⟨g,q*7+6,none⟩=some (.slice a1 p.1.s1.length k1) /\
   w.ownsRow B 9 1 (.slice a0 p.1.s0.length k0) p.1.s0.length (p.1.s0.map Value.string)/\w.ownsRow B 9 1 (.slice a1 p.1.s1.length k1) p.1.s1.length (p.1.s1.map Value.string):=by
 have de:q<ps.length:=(ZZ.1 hq).1;have hr:=h.row;have hm:=ZY hq;obtain⟨c,v0,v1⟩:=p;have h0:=h.s0 _ hm;have h1:=h.s1 _ hm;simp only at h0 h1;obtain⟨a0,k0,rfl⟩:=Zs h0;obtain⟨a1,k1,rfl⟩:=Zs h1;obtain⟨a,cap,rfl⟩:=Zs hr;obtain⟨g,rfl,ar,hc⟩:=Zby hr ZO;have hf:∀ (l:List (Con × Value × Value)) (q:Nat) (p:Con × Value × Value),l[q]? = some p->∀ j u,(Za3 p.1 p.2.1 p.2.2).toList[j]? = some u->(conCells l)[q*7+j]? = some u:=by
  intro l
  induction l with
  | nil=>intro q p h;simp at h
  | cons x l ih =>
   intro q p h j u hj;have e:conCells (x::l)=(Za3 x.1 x.2.1 x.2.2).toList++conCells l:=rfl;have hl:(Za3 x.1 x.2.1 x.2.2).toList.length=7:=rfl;rw[e]
   cases q with
   | zero =>
    simp at h;subst h;have hj7:j<7:=(ZZ.1 hj).1;rw[List.getElem?_append_left (by rw[hl];omega),Nat.zero_mul,Nat.zero_add];exact hj
   | succ q =>
    rw[List.getElem?_append_right (by rw[hl];omega),hl,show(q+1)*7+j-7=q*7+j by omega];exact ih q p (by simpa using h) j u hj
 have bz:∀ j u,(Za3 c (.slice a0 c.s0.length k0) (.slice a1 c.s1.length k1)).toList[j]? = some u->w.cell? ⟨g,q*7+j,none⟩=some u:=λ j u hj=>by
  have h2:=hf ps q _ hq j u hj;exact(hc _ (ZZ.1 h2).1).trans h2
 exact⟨g,cap,a0,k0,a1,k1,rfl,ar,bz 0 _ rfl,bz 1 _ rfl,bz 2 _ rfl,bz 3 _ rfl,bz 4 _ rfl,bz 5 _ rfl,bz 6 _ rfl,h0,h1⟩
theorem Ztk{w:World}{B:Nat}{a:Option Addr}{n k:Nat}{l:List ByteArray}(h:w.ownsRow B 9 1 (.slice a n k) n (l.map Value.string)){q:Nat}{s:ByteArray}(hq:l[q]? = some s):
  ∃ g,a=some ⟨g,0,none⟩/\g<w.heap.size/\w.cell? ⟨g,q,none⟩=some (.string s):=by
 have eG:(l.map Value.string).length=n*1:=h.1;have de:q<l.length:=(ZZ.1 hq).1;rw[List.length_map] at eG;obtain⟨g,hg,ar,hc⟩:=Zby h ZO;refine⟨g,hg,ar,(hc q (by rw[List.length_map];exact de)).trans ?_⟩;rw[List.getElem?_map,hq];rfl
theorem ZtQ{w:World}{a b:Option Addr}{n m k j:Nat}(h:n≠m):Calls prog 16 #[.slice a n k,.slice b m j] w (Zv (.bool false) w):=by
 have h1:((n:Int)==(m:Int))=false:=ZP;go_enter func16,ntmps16;go_wp2
 go_ret;exact⟨rfl,ZW _ _⟩
theorem Ztt{w:World}{B1 B2:Nat}{va vb:Value}{ps qs:List (Con × Value × Value)}(ha:ConRows B1 w va ps)(hb:ConRows B2 w vb qs)(h:ps.map (·.1)=qs.map (·.1)):Calls prog 16 #[va,vb] w (Zv (.bool true) w):=by
 have hl:qs.length=ps.length:=by
  have:=congrArg List.length h;simpa using this.symm
 obtain⟨aa,ca,rfl⟩:=Zs ha.row;obtain⟨ab,cb,rfl⟩:=Zs hb.row;have dh:=Ztd ha.row;obtain⟨HA,HB,HM,HK⟩:=ZH4 ha hb h (ZKr w);obtain⟨n,cB⟩:∃ n,n=ps.length:=⟨_,rfl⟩;obtain⟨HN,HL⟩:=ZH2 cB hl;rw[hl,←cB];rw[←cB] at dh;clear ha hb h hl cB;have cD:=Zty;have hq2:=Ztz;go_enter func16,ntmps16;go_wp2_with fail;go_loopw [5] (λ i wr=>∃ q:Nat,q<=n/\i = .int .i64 q/\Hid (Kept w.heap.size w wr)) (λ i _=>n-(intOf i).toNat)
 case atStart=>exact⟨0,ZO,rfl,HK⟩
 case round =>
  clear HK;obtain⟨q,hq,rfl,HK⟩:=hrel;by_cases bS:q<n
  ·obtain⟨p,hp⟩:∃ p,ps[q]? = some p:=⟨_,ZX (by rw[←HN.out];exact bS)⟩;obtain⟨p',dj⟩:∃ p',qs[q]? = some p':=⟨_,ZX (by rw[HL.out,←HN.out];exact bS)⟩;have dX:p'.1=p.1:=by
    have h1:(ps.map (·.1))[q]? = some p.1:=by rw[List.getElem?_map,hp];rfl
    rw[HM.out,List.getElem?_map,dj] at h1;simpa using h1
   obtain⟨g1,k1,x0,j0,x1,j1,bq,bN,a0,a1,a2,a3,a4,a5,a6,r0,r1⟩:=Ztm HA.out hp;obtain⟨g2,k2,y0,i0,y1,i1,ea,ch,b0,b1,b2,b3,b4,b5,b6,t0,t1⟩:=Ztm HB.out dj;obtain rfl:aa=some ⟨g1,0,none⟩:=by injection bq
   obtain rfl:ab=some ⟨g2,0,none⟩:=by injection ea
   rw[dX] at b0 b1 b2 b3 b4 b5 b6 t0 t1;rw[←HK.out.cells g1 _ bN] at a0 a1 a2 a3 a4 a5 a6;rw[←HK.out.cells g2 _ ch] at b0 b1 b2 b3 b4 b5 b6;have bg:g1<wr.heap.size:=ZR bN HK.out.le;have ay:g2<wr.heap.size:=ZR ch HK.out.le;have hm0:=Ztd r0;have dg:=Ztd r1;obtain⟨R0,R1,T0,T1⟩:=ZH4 r0 r1 t0 t1;generalize p.1=c at *;clear hp dj dX bq ea bN ch r0 r1 t0 t1;go_wp2_with fail;go_quiet (fail)
   go_wp2_with fail;have b7:Hid (Kept wr.heap.size wr wr):=ZH (ZKr wr);obtain⟨W,hW⟩:∃ W,W=wr:=⟨_,rfl⟩;subst hW;go_loopw [6] (λ i wr=>∃ m:Nat,((m=0/\i = .int .i64 0)∨(m=1/\i = .int .i64 1)∨(m=2/\i = .int .i64 2))/\Hid (Kept W.heap.size W wr)) (λ i _=>2-(intOf i).toNat)
   case atStart=>exact⟨0,.inl ⟨rfl,rfl⟩,b7.out.drewN _⟩
   case round =>
    clear b7;obtain⟨m,hm,an⟩:=hrel;obtain⟨W2,ex⟩:∃ W2,W2=wr:=⟨_,rfl⟩;subst ex;have hl1'':g1<W2.heap.size:=ZR bg an.out.le;have hl2'':g2<W2.heap.size:=ZR ay an.out.le;rcases hm with ⟨rfl,rfl⟩|⟨rfl,rfl⟩|⟨rfl,rfl⟩
    ·have cQ:=(an.out.cells g1 _ bg).trans a5;have cR:=(an.out.cells g2 _ ay).trans b5;have bL:=an;go_wp2_with fail;go_quiet (fail)
     go_wp2_with fail;go_loopw [7] (λ i wr=>∃ k:Nat,k<=c.s0.length/\i = .int .i64 k/\Hid (Kept W.heap.size W wr)) (λ i _=>c.s0.length-(intOf i).toNat)
     case atStart=>exact⟨0,ZO,rfl,bL.out.drewN _⟩
     case round =>
      obtain⟨k,hk,rfl,ae⟩:=hrel;have er:=(ae.out.cells g1 _ bg).trans a5;have es:=(ae.out.cells g2 _ ay).trans b5;have dc:g1<wr.heap.size:=ZR bg ae.out.le;have dd:g2<wr.heap.size:=ZR ay ae.out.le;by_cases cj:k<c.s0.length
      ·obtain⟨z,hz⟩:∃ z,(c.s0)[k]? = some z:=⟨_,ZX cj⟩;obtain⟨h1,rfl,dN,z1⟩:=Ztk (Ze (Ze R0.out HK.out.below) ae.out.below) hz;obtain⟨h2,rfl,ey,z2⟩:=Ztk (Ze (Ze T0.out HK.out.below) ae.out.below) hz;clear hz;go_wp2_with fail;go_quiet (fail)
       go_wp2
       go_roundw
       case rel=>exact⟨k+1,ZO,ZN,ae.out.drewN _⟩
       case measure=>simp[intOf];omega
      ·obtain rfl:k=c.s0.length:=ZO;go_wp2
       go_roundw
       case rel=>exact⟨1,.inr (.inl ⟨rfl,rfl⟩),ae⟩
       case measure=>simp[intOf]
    ·have cQ:=(an.out.cells g1 _ bg).trans a6;have cR:=(an.out.cells g2 _ ay).trans b6;have bL:=an;go_wp2_with fail;go_quiet (fail)
     go_wp2_with fail;go_loopw [7] (λ i wr=>∃ k:Nat,k<=c.s1.length/\i = .int .i64 k/\Hid (Kept W.heap.size W wr)) (λ i _=>c.s1.length-(intOf i).toNat)
     case atStart=>exact⟨0,ZO,rfl,bL.out.drewN _⟩
     case round =>
      obtain⟨k,hk,rfl,ae⟩:=hrel;have er:=(ae.out.cells g1 _ bg).trans a6;have es:=(ae.out.cells g2 _ ay).trans b6;have dc:g1<wr.heap.size:=ZR bg ae.out.le;have dd:g2<wr.heap.size:=ZR ay ae.out.le;by_cases cj:k<c.s1.length
      ·obtain⟨z,hz⟩:∃ z,(c.s1)[k]? = some z:=⟨_,ZX cj⟩;obtain⟨h1,rfl,dN,z1⟩:=Ztk (Ze (Ze R1.out HK.out.below) ae.out.below) hz;obtain⟨h2,rfl,ey,z2⟩:=Ztk (Ze (Ze T1.out HK.out.below) ae.out.below) hz;clear hz;go_wp2_with fail;go_quiet (fail)
       go_wp2
       go_roundw
       case rel=>exact⟨k+1,ZO,ZN,ae.out.drewN _⟩
       case measure=>simp[intOf];omega
      ·obtain rfl:k=c.s1.length:=ZO;go_wp2
       go_roundw
       case rel=>exact⟨2,.inr (.inr ⟨rfl,rfl⟩),ae⟩
       case measure=>simp[intOf]
    ·go_wp2
     go_roundw
     case rel=>exact⟨q+1,ZO,ZN,HK.out.trans an.out HK.out.le⟩
     case measure=>simp[intOf];omega
  ·obtain rfl:q=n:=ZO;go_wp2
   go_ret;exact⟨rfl,HK.out.below⟩
end Go.Proofs.YtjkfognelhiepaaGreat
