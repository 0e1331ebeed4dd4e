import Derived.Test.YtjkfognelhiepaaGreatH01
import Derived.Test.YtjkfognelhiepaaGreatC28
namespace Go.Proofs.YtjkfognelhiepaaGreat
open Go.RowKit _root_.Go.Proofs.Tryz
set_option maxRecDepth 100000
set_option maxHeartbeats 8000000
section
section
variable {c:Cfg}{r b b':Nat}{B B':Bd}{x:PN}{s1:NodeSt}
theorem NodeInv.ak(h:NodeInv c r B b x)(hu:x.s.up=true):ownN r x=cnt r x.s.log:=by unfold ownN;rw[(h.up hu).recs]
end
end
section
section
variable {c:Cfg}{B B':Bd}{x:PH}
theorem HubInv.aa(h:HubInv c B x)(i:Nat):B.hub i<=B.made i:=by
 rw[h.hub]
 cases hx:(repl c x.rs).1[i]? with
 | none =>
  unfold hubLen lensOf;rw[List.getD_eq_getElem?_getD,List.getElem?_map,hx];exact Nat.zero_le _
 | some s=>rw[Zg1 hx];exact(h.inv.sh i s hx).made
end
end
def Zs5(s:RawSt):Nat:=(Zle s.kind 12).toNat
def Ztb(n:Nat)(s:RawSt):Nat:=if (Zle s.r (n+1)).toNat=n then(if Zs5 s<8∨Zs5 s=11 then 0 else 5) else(Zle s.r (n+1)).toNat
def Zs1(n:Nat)(s:RawSt):St:=⟨Zs5 s,Ztb n s,ZcX s.ek,Zd0 (Zej s.key s.key.size),Zg3 (ZcX s.ek) s.label,ZeG (ZcX s.ek) s.value,s.at_,s.bit,s.mask.toNat,s.keep,false⟩
theorem Zta(s:RawSt):Zs5 s<=11:=by
 have h:=Zns s.kind (k:=12) ZO;unfold Zs5;omega
theorem Zti{c:Cfg}(hc:c.Ok)(s:RawSt):Ztb c.n s<c.n∨Ztb c.n s=5/\8<=Zs5 s/\Zs5 s<=10:=by
 have h:=Zns s.r (k:=c.n+1) ZO;have hk:=Zta s;have h1:=hc.n1;unfold Ztb;split
 ·split
  ·exact .inl ZO
  ·exact .inr ⟨rfl,ZO,ZO⟩
 ·exact .inl ZO
theorem Zte{c:Cfg}(hc:c.Ok){s:RawSt}(hs:RawOk s):StOk c (Zs1 c.n s):=by
 refine⟨Zta s,?_,ZsV _ _ _ _,?_⟩
 ·rcases Zti hc s with h | h
  ·exact .inl h
  ·exact .inr h.1
 ·show s.mask.toNat<4294967296
  have:=hs.mask0;have:=hs.mask;omega
abbrev Zs4(s:St):Array Value:=#[.int .i64 s.kind,.int .i64 s.r,.int .i64 s.ek,.string s.key,.int .i64 s.label,.string s.value,.int .i64 s.at_,.int .i64 s.bit,.int .u32 s.mask,.int .i64 s.keep]
abbrev Ztj(s:St):Value := .agg (Zs4 s)
theorem Blk.a6{w:World}{g:Nat}{ty:TypeId}{v0 v1 v2 v3 v4 v5 v6 v7 v8 v9:Value}(h:Blk w g ty #[v0,v1,v2,v3,v4,v5,v6,v7,v8,v9]):w.cell? ⟨g,0,none⟩=some v0/\w.cell? ⟨g,1,none⟩=some v1/\w.cell? ⟨g,2,none⟩=some v2/\w.cell? ⟨g,3,none⟩=some v3/\w.cell? ⟨g,4,none⟩=some v4/\w.cell? ⟨g,5,none⟩=some v5/\w.cell? ⟨g,6,none⟩=some v6/\w.cell? ⟨g,7,none⟩=some v7/\w.cell? ⟨g,8,none⟩=some v8/\w.cell? ⟨g,9,none⟩=some v9 :=
 ⟨h.cell 0,h.cell 1,h.cell 2,h.cell 3,h.cell 4,h.cell 5,h.cell 6,h.cell 7,h.cell 8,h.cell 9⟩
theorem Ztn(s:RawSt)(n:Nat)(h1:1<=n)(h5:n<=5)(hs:RawOk s)(w:World):
  Calls prog 31 #[.agg #[.int .i64 s.kind,.int .i64 s.r,.int .i64 s.ek,.string s.key,.int .i64 s.label,.string s.value,.int .i64 s.at_,.int .i64 s.bit,.int .u32 s.mask,.int .i64 s.keep],.int .i64 n] w (Zv (Ztj (Zs1 n s)) w):=by
 have hb:=(ZBn w 36 #[.int .i64 s.kind,.int .i64 s.r,.int .i64 s.ek,.string s.key,.int .i64 s.label,.string s.value,.int .i64 s.at_,.int .i64 s.bit,.int .u32 s.mask,.int .i64 s.keep]).alloc (.cells #[.int .i64 0,.int .i64 0,.int .i64 0,.string ByteArray.empty,.int .i64 0,.string ByteArray.empty,.int .i64 0,.int .i64 0,.int .u32 0,.int .i64 0] 36);obtain⟨c0,c1,c2,c3,c4,c5,c6,c7,c8,c9⟩:=hb.a6;have hl:=hb.lt;clear hb;have ea:(wrap64 (s.kind.tmod 12+12)).tmod 12=(Zs5 s:Int):=ZsW s.kind ZO ZO;obtain⟨R,hR⟩:∃ R,R=(Zle s.r (n+1)).toNat:=⟨_,rfl⟩;have eV:(wrap64 (wrap64 (s.r.tmod ((n:Int)+1)+(n:Int))+1)).tmod ((n:Int)+1)=(R:Int):=by
  rw[hR,←ZsW s.r ZO ZO];have b1:=Int.tmod_lt_of_pos s.r (show 0<(n:Int)+1 by omega);have b2 : -((n:Int)+1)<s.r.tmod ((n:Int)+1):=by
   have:=Int.tmod_lt_of_pos (-s.r) (show 0<(n:Int)+1 by omega);rw[Int.neg_tmod] at this;omega
  generalize s.r.tmod ((n:Int)+1)=z at *;have e:wrap64 (wrap64 (z+(n:Int))+1)=wrap64 (z+((n:Int)+1)):=by unfold wrap64;omega
  rw[e]
 have di:=Zta s;have dZ:Ztb n s=if R=n then(if Zs5 s<8∨Zs5 s=11 then 0 else 5) else R:=by rw[hR];rfl
 have bw:=ZH dZ;obtain⟨K,hK⟩:∃ K,K=Zs5 s:=⟨_,rfl⟩;rw[←hK] at ea di bw;obtain⟨cJ,HKW,HRW⟩:=ZH3 hK ea eV;have hRn:R<=n:=by
  have:=Zns s.r (k:=(n:Int)+1) ZO;omega
 clear hK dZ hR;have bm:=ZH (ZsZ s.ek s.key s.label s.value · hs.key hs.value);go_enter func31,ntmps31;by_cases hr:R=n
 ·by_cases h8:K<8
  ·obtain⟨bP,cS⟩:=ZH2 hr h8;go_wp2_with fail;have ba:=(ZBn w 36 #[.int .i64 (K:Int),.int .i64 0,.int .i64 s.ek,.string s.key,.int .i64 s.label,.string s.value,.int .i64 s.at_,.int .i64 s.bit,.int .u32 s.mask,.int .i64 s.keep]).alloc (.cells #[.int .i64 0,.int .i64 0,.int .i64 0,.string ⟨#[]⟩,.int .i64 0,.string ⟨#[]⟩,.int .i64 0,.int .i64 0,.int .u32 0,.int .i64 0] 36);have aF:=ZBn (w.alloc (.cells #[.int .i64 (K:Int),.int .i64 0,.int .i64 s.ek,.string s.key,.int .i64 s.label,.string s.value,.int .i64 s.at_,.int .i64 s.bit,.int .u32 s.mask,.int .i64 s.keep] 36)) 36 #[.int .i64 0,.int .i64 0,.int .i64 0,.string ⟨#[]⟩,.int .i64 0,.string ⟨#[]⟩,.int .i64 0,.int .i64 0,.int .u32 0,.int .i64 0];rw[World.size_alloc] at aF;have bf:=((ZKr w).alloc (.cells #[.int .i64 (K:Int),.int .i64 0,.int .i64 s.ek,.string s.key,.int .i64 s.label,.string s.value,.int .i64 s.at_,.int .i64 s.bit,.int .u32 s.mask,.int .i64 s.keep] 36)).alloc (.cells #[.int .i64 0,.int .i64 0,.int .i64 0,.string ⟨#[]⟩,.int .i64 0,.string ⟨#[]⟩,.int .i64 0,.int .i64 0,.int .u32 0,.int .i64 0] 36);refine(bm.out _).mono ?_;generalize (w.alloc (.cells #[.int .i64 (K:Int),.int .i64 0,.int .i64 s.ek,.string s.key,.int .i64 s.label,.string s.value,.int .i64 s.at_,.int .i64 s.bit,.int .u32 s.mask,.int .i64 s.keep] 36)).alloc (.cells #[.int .i64 0,.int .i64 0,.int .i64 0,.string ⟨#[]⟩,.int .i64 0,.string ⟨#[]⟩,.int .i64 0,.int .i64 0,.int .u32 0,.int .i64 0] 36)=W at *;rintro _ w1 ⟨rfl,hb⟩;obtain⟨HB,HK⟩:=ZH2 (aF.ob hb) (bf.step hb);have hc:=ba.ob hb;clear ba aF bf hb;obtain⟨c0,c1,c2,c3,c4,c5,c6,c7,c8,c9⟩:=hc.a6;have hl:=hc.lt;have hf:=λ i=>hc.frozen i
   obtain⟨d0,d1,d2,d3,d4,d5,d6,d7,d8,d9⟩:=HB.out.a6;have dx:=HB.out.lt;have bs:=λ i=>HB.out.frozen i
   clear hc;go_wp2_with fail;have bQ:Ztb n s=0:=by rw[bw.out];rw[if_pos bP.out,if_pos (.inl cS.out)]
   have aT:=Zaw (vs:=Zs4 ⟨K,0,ZcX s.ek,Zd0 (Zej s.key s.key.size),Zg3 (ZcX s.ek) s.label,ZeG (ZcX s.ek) s.value,s.at_,s.bit,s.mask.toNat,s.keep,false⟩) ((Zaj (show w.heap.size+1≠w.heap.size by omega) [.int .i64 (ZcX s.ek:Int),.string (Zd0 (Zej s.key s.key.size)),.int .i64 (Zg3 (ZcX s.ek) s.label:Int),.string (ZeG (ZcX s.ek) s.value)] 2 w1).trans HB.out) rfl;have b8:=ZaB (ZaB HK.out (g:=w.heap.size) (ZL _) 2 [.int .i64 (ZcX s.ek:Int),.string (Zd0 (Zej s.key s.key.size)),.int .i64 (Zg3 (ZcX s.ek) s.label:Int),.string (ZeG (ZcX s.ek) s.value)]) (g:=w.heap.size+1) ZO 0 (Zs4 ⟨K,0,ZcX s.ek,Zd0 (Zej s.key s.key.size),Zg3 (ZcX s.ek) s.label,ZeG (ZcX s.ek) s.value,s.at_,s.bit,s.mask.toNat,s.keep,false⟩).toList;have b9:s.mask=((s.mask.toNat:Nat):Int):=by have:=hs.mask0;omega
   have e:Zs1 n s=⟨K,0,ZcX s.ek,Zd0 (Zej s.key s.key.size),Zg3 (ZcX s.ek) s.label,ZeG (ZcX s.ek) s.value,s.at_,s.bit,s.mask.toNat,s.keep,false⟩:=by unfold Zs1;rw[bQ,←cJ.out]
   rw[e];rw[b9];refine bodyPost_ret (Zac rfl rfl (run_loadVar_row _ _ _ _ _ _ _ aT underlying36 rfl ZK)) rfl ?_;exact⟨rfl,b8.below⟩
  ·by_cases cM:K=11
   focus
    obtain⟨bP,bI⟩:=ZH2 hr cM;have dm:((K:Int)==11)=true:=by rw[cM];rfl
    clear cM;go_wp2_with fail;have ba:=(ZBn w 36 #[.int .i64 (K:Int),.int .i64 0,.int .i64 s.ek,.string s.key,.int .i64 s.label,.string s.value,.int .i64 s.at_,.int .i64 s.bit,.int .u32 s.mask,.int .i64 s.keep]).alloc (.cells #[.int .i64 0,.int .i64 0,.int .i64 0,.string ⟨#[]⟩,.int .i64 0,.string ⟨#[]⟩,.int .i64 0,.int .i64 0,.int .u32 0,.int .i64 0] 36);have aF:=ZBn (w.alloc (.cells #[.int .i64 (K:Int),.int .i64 0,.int .i64 s.ek,.string s.key,.int .i64 s.label,.string s.value,.int .i64 s.at_,.int .i64 s.bit,.int .u32 s.mask,.int .i64 s.keep] 36)) 36 #[.int .i64 0,.int .i64 0,.int .i64 0,.string ⟨#[]⟩,.int .i64 0,.string ⟨#[]⟩,.int .i64 0,.int .i64 0,.int .u32 0,.int .i64 0];rw[World.size_alloc] at aF;have bf:=((ZKr w).alloc (.cells #[.int .i64 (K:Int),.int .i64 0,.int .i64 s.ek,.string s.key,.int .i64 s.label,.string s.value,.int .i64 s.at_,.int .i64 s.bit,.int .u32 s.mask,.int .i64 s.keep] 36)).alloc (.cells #[.int .i64 0,.int .i64 0,.int .i64 0,.string ⟨#[]⟩,.int .i64 0,.string ⟨#[]⟩,.int .i64 0,.int .i64 0,.int .u32 0,.int .i64 0] 36);refine(bm.out _).mono ?_;generalize (w.alloc (.cells #[.int .i64 (K:Int),.int .i64 0,.int .i64 s.ek,.string s.key,.int .i64 s.label,.string s.value,.int .i64 s.at_,.int .i64 s.bit,.int .u32 s.mask,.int .i64 s.keep] 36)).alloc (.cells #[.int .i64 0,.int .i64 0,.int .i64 0,.string ⟨#[]⟩,.int .i64 0,.string ⟨#[]⟩,.int .i64 0,.int .i64 0,.int .u32 0,.int .i64 0] 36)=W at *;rintro _ w1 ⟨rfl,hb⟩;obtain⟨HB,HK⟩:=ZH2 (aF.ob hb) (bf.step hb);have hc:=ba.ob hb;clear ba aF bf hb;obtain⟨c0,c1,c2,c3,c4,c5,c6,c7,c8,c9⟩:=hc.a6;have hl:=hc.lt;have hf:=λ i=>hc.frozen i
    obtain⟨d0,d1,d2,d3,d4,d5,d6,d7,d8,d9⟩:=HB.out.a6;have dx:=HB.out.lt;have bs:=λ i=>HB.out.frozen i
    clear hc;go_wp2_with fail;have bQ:Ztb n s=0:=by rw[bw.out];rw[if_pos bP.out,if_pos (.inr bI.out)]
    have aT:=Zaw (vs:=Zs4 ⟨K,0,ZcX s.ek,Zd0 (Zej s.key s.key.size),Zg3 (ZcX s.ek) s.label,ZeG (ZcX s.ek) s.value,s.at_,s.bit,s.mask.toNat,s.keep,false⟩) ((Zaj (show w.heap.size+1≠w.heap.size by omega) [.int .i64 (ZcX s.ek:Int),.string (Zd0 (Zej s.key s.key.size)),.int .i64 (Zg3 (ZcX s.ek) s.label:Int),.string (ZeG (ZcX s.ek) s.value)] 2 w1).trans HB.out) rfl;have b8:=ZaB (ZaB HK.out (g:=w.heap.size) (ZL _) 2 [.int .i64 (ZcX s.ek:Int),.string (Zd0 (Zej s.key s.key.size)),.int .i64 (Zg3 (ZcX s.ek) s.label:Int),.string (ZeG (ZcX s.ek) s.value)]) (g:=w.heap.size+1) ZO 0 (Zs4 ⟨K,0,ZcX s.ek,Zd0 (Zej s.key s.key.size),Zg3 (ZcX s.ek) s.label,ZeG (ZcX s.ek) s.value,s.at_,s.bit,s.mask.toNat,s.keep,false⟩).toList;have b9:s.mask=((s.mask.toNat:Nat):Int):=by have:=hs.mask0;omega
    have e:Zs1 n s=⟨K,0,ZcX s.ek,Zd0 (Zej s.key s.key.size),Zg3 (ZcX s.ek) s.label,ZeG (ZcX s.ek) s.value,s.at_,s.bit,s.mask.toNat,s.keep,false⟩:=by unfold Zs1;rw[bQ,←cJ.out]
   rotate_left
   focus
    obtain⟨bP,bI,cS⟩:=ZH3 hr cM h8;have dm:((K:Int)==11)=false:=ZP;go_wp2_with fail;have ba:=(ZBn w 36 #[.int .i64 (K:Int),.int .i64 5,.int .i64 s.ek,.string s.key,.int .i64 s.label,.string s.value,.int .i64 s.at_,.int .i64 s.bit,.int .u32 s.mask,.int .i64 s.keep]).alloc (.cells #[.int .i64 0,.int .i64 0,.int .i64 0,.string ⟨#[]⟩,.int .i64 0,.string ⟨#[]⟩,.int .i64 0,.int .i64 0,.int .u32 0,.int .i64 0] 36);have aF:=ZBn (w.alloc (.cells #[.int .i64 (K:Int),.int .i64 5,.int .i64 s.ek,.string s.key,.int .i64 s.label,.string s.value,.int .i64 s.at_,.int .i64 s.bit,.int .u32 s.mask,.int .i64 s.keep] 36)) 36 #[.int .i64 0,.int .i64 0,.int .i64 0,.string ⟨#[]⟩,.int .i64 0,.string ⟨#[]⟩,.int .i64 0,.int .i64 0,.int .u32 0,.int .i64 0];rw[World.size_alloc] at aF;have bf:=((ZKr w).alloc (.cells #[.int .i64 (K:Int),.int .i64 5,.int .i64 s.ek,.string s.key,.int .i64 s.label,.string s.value,.int .i64 s.at_,.int .i64 s.bit,.int .u32 s.mask,.int .i64 s.keep] 36)).alloc (.cells #[.int .i64 0,.int .i64 0,.int .i64 0,.string ⟨#[]⟩,.int .i64 0,.string ⟨#[]⟩,.int .i64 0,.int .i64 0,.int .u32 0,.int .i64 0] 36);refine(bm.out _).mono ?_;generalize (w.alloc (.cells #[.int .i64 (K:Int),.int .i64 5,.int .i64 s.ek,.string s.key,.int .i64 s.label,.string s.value,.int .i64 s.at_,.int .i64 s.bit,.int .u32 s.mask,.int .i64 s.keep] 36)).alloc (.cells #[.int .i64 0,.int .i64 0,.int .i64 0,.string ⟨#[]⟩,.int .i64 0,.string ⟨#[]⟩,.int .i64 0,.int .i64 0,.int .u32 0,.int .i64 0] 36)=W at *;rintro _ w1 ⟨rfl,hb⟩;obtain⟨HB,HK⟩:=ZH2 (aF.ob hb) (bf.step hb);have hc:=ba.ob hb;clear ba aF bf hb;obtain⟨c0,c1,c2,c3,c4,c5,c6,c7,c8,c9⟩:=hc.a6;have hl:=hc.lt;have hf:=λ i=>hc.frozen i
    obtain⟨d0,d1,d2,d3,d4,d5,d6,d7,d8,d9⟩:=HB.out.a6;have dx:=HB.out.lt;have bs:=λ i=>HB.out.frozen i
    clear hc;go_wp2_with fail;have bQ:Ztb n s=5:=by rw[bw.out];rw[if_pos bP.out,if_neg (λ h=>h.elim cS.out bI.out)]
    have aT:=Zaw (vs:=Zs4 ⟨K,5,ZcX s.ek,Zd0 (Zej s.key s.key.size),Zg3 (ZcX s.ek) s.label,ZeG (ZcX s.ek) s.value,s.at_,s.bit,s.mask.toNat,s.keep,false⟩) ((Zaj (show w.heap.size+1≠w.heap.size by omega) [.int .i64 (ZcX s.ek:Int),.string (Zd0 (Zej s.key s.key.size)),.int .i64 (Zg3 (ZcX s.ek) s.label:Int),.string (ZeG (ZcX s.ek) s.value)] 2 w1).trans HB.out) rfl;have b8:=ZaB (ZaB HK.out (g:=w.heap.size) (ZL _) 2 [.int .i64 (ZcX s.ek:Int),.string (Zd0 (Zej s.key s.key.size)),.int .i64 (Zg3 (ZcX s.ek) s.label:Int),.string (ZeG (ZcX s.ek) s.value)]) (g:=w.heap.size+1) ZO 0 (Zs4 ⟨K,5,ZcX s.ek,Zd0 (Zej s.key s.key.size),Zg3 (ZcX s.ek) s.label,ZeG (ZcX s.ek) s.value,s.at_,s.bit,s.mask.toNat,s.keep,false⟩).toList;have b9:s.mask=((s.mask.toNat:Nat):Int):=by have:=hs.mask0;omega
    have e:Zs1 n s=⟨K,5,ZcX s.ek,Zd0 (Zej s.key s.key.size),Zg3 (ZcX s.ek) s.label,ZeG (ZcX s.ek) s.value,s.at_,s.bit,s.mask.toNat,s.keep,false⟩:=by unfold Zs1;rw[bQ,←cJ.out]
   rotate_left
   all_goals
    rw[e];rw[b9];refine bodyPost_ret (Zac rfl rfl (run_loadVar_row _ _ _ _ _ _ _ aT underlying36 rfl ZK)) rfl ?_;exact⟨rfl,b8.below⟩
 ·have bP:=ZH hr;have hbr:((R:Int)==(n:Int))=false:=ZP;go_wp2_with fail;have ba:=(ZBn w 36 #[.int .i64 (K:Int),.int .i64 (R:Int),.int .i64 s.ek,.string s.key,.int .i64 s.label,.string s.value,.int .i64 s.at_,.int .i64 s.bit,.int .u32 s.mask,.int .i64 s.keep]).alloc (.cells #[.int .i64 0,.int .i64 0,.int .i64 0,.string ⟨#[]⟩,.int .i64 0,.string ⟨#[]⟩,.int .i64 0,.int .i64 0,.int .u32 0,.int .i64 0] 36);have aF:=ZBn (w.alloc (.cells #[.int .i64 (K:Int),.int .i64 (R:Int),.int .i64 s.ek,.string s.key,.int .i64 s.label,.string s.value,.int .i64 s.at_,.int .i64 s.bit,.int .u32 s.mask,.int .i64 s.keep] 36)) 36 #[.int .i64 0,.int .i64 0,.int .i64 0,.string ⟨#[]⟩,.int .i64 0,.string ⟨#[]⟩,.int .i64 0,.int .i64 0,.int .u32 0,.int .i64 0];rw[World.size_alloc] at aF;have bf:=((ZKr w).alloc (.cells #[.int .i64 (K:Int),.int .i64 (R:Int),.int .i64 s.ek,.string s.key,.int .i64 s.label,.string s.value,.int .i64 s.at_,.int .i64 s.bit,.int .u32 s.mask,.int .i64 s.keep] 36)).alloc (.cells #[.int .i64 0,.int .i64 0,.int .i64 0,.string ⟨#[]⟩,.int .i64 0,.string ⟨#[]⟩,.int .i64 0,.int .i64 0,.int .u32 0,.int .i64 0] 36);refine(bm.out _).mono ?_;generalize (w.alloc (.cells #[.int .i64 (K:Int),.int .i64 (R:Int),.int .i64 s.ek,.string s.key,.int .i64 s.label,.string s.value,.int .i64 s.at_,.int .i64 s.bit,.int .u32 s.mask,.int .i64 s.keep] 36)).alloc (.cells #[.int .i64 0,.int .i64 0,.int .i64 0,.string ⟨#[]⟩,.int .i64 0,.string ⟨#[]⟩,.int .i64 0,.int .i64 0,.int .u32 0,.int .i64 0] 36)=W at *;rintro _ w1 ⟨rfl,hb⟩;obtain⟨HB,HK⟩:=ZH2 (aF.ob hb) (bf.step hb);have hc:=ba.ob hb;clear ba aF bf hb;obtain⟨c0,c1,c2,c3,c4,c5,c6,c7,c8,c9⟩:=hc.a6;have hl:=hc.lt;have hf:=λ i=>hc.frozen i
  obtain⟨d0,d1,d2,d3,d4,d5,d6,d7,d8,d9⟩:=HB.out.a6;have dx:=HB.out.lt;have bs:=λ i=>HB.out.frozen i
  clear hc;go_wp2_with fail;have bQ:Ztb n s=R:=by rw[bw.out];rw[if_neg bP.out]
  have aT:=Zaw (vs:=Zs4 ⟨K,R,ZcX s.ek,Zd0 (Zej s.key s.key.size),Zg3 (ZcX s.ek) s.label,ZeG (ZcX s.ek) s.value,s.at_,s.bit,s.mask.toNat,s.keep,false⟩) ((Zaj (show w.heap.size+1≠w.heap.size by omega) [.int .i64 (ZcX s.ek:Int),.string (Zd0 (Zej s.key s.key.size)),.int .i64 (Zg3 (ZcX s.ek) s.label:Int),.string (ZeG (ZcX s.ek) s.value)] 2 w1).trans HB.out) rfl;have b8:=ZaB (ZaB HK.out (g:=w.heap.size) (ZL _) 2 [.int .i64 (ZcX s.ek:Int),.string (Zd0 (Zej s.key s.key.size)),.int .i64 (Zg3 (ZcX s.ek) s.label:Int),.string (ZeG (ZcX s.ek) s.value)]) (g:=w.heap.size+1) ZO 0 (Zs4 ⟨K,R,ZcX s.ek,Zd0 (Zej s.key s.key.size),Zg3 (ZcX s.ek) s.label,ZeG (ZcX s.ek) s.value,s.at_,s.bit,s.mask.toNat,s.keep,false⟩).toList;have b9:s.mask=((s.mask.toNat:Nat):Int):=by have:=hs.mask0;omega
  have e:Zs1 n s=⟨K,R,ZcX s.ek,Zd0 (Zej s.key s.key.size),Zg3 (ZcX s.ek) s.label,ZeG (ZcX s.ek) s.value,s.at_,s.bit,s.mask.toNat,s.keep,false⟩:=by unfold Zs1;rw[bQ,←cJ.out]
  rw[e];rw[b9];refine bodyPost_ret (Zac rfl rfl (run_loadVar_row _ _ _ _ _ _ _ aT underlying36 rfl ZK)) rfl ?_;exact⟨rfl,b8.below⟩
def stL(s:St):List Value:=(Zs4 s).toList
def Zs7(n:Nat)(ss:List RawSt):List St:=(ss.take 60).map (Zs1 n)
theorem Ztl:(prog.info? 36).map (λ i=>(i.zero,i.size,i.bytes))=some (some (.agg #[.int .i64 0,.int .i64 0,.int .i64 0,.string ByteArray.empty,.int .i64 0,.string ByteArray.empty,.int .i64 0,.int .i64 0,.int .u32 0,.int .i64 0]),10,96):=ZK
theorem Ztc(w:World)(e:TypeId)(sz:Nat):(w.alloc (.cells #[] e)).ownsRow w.heap.size e sz (.slice (some ⟨w.heap.size,0,none⟩) 0 0) 0 [] :=
 ⟨ZM,.inr ⟨w.heap.size,0,#[],rfl,ZL _,heap_alloc_new w _,ZL _,by simp[maxLen],ZM,ZM⟩⟩
theorem Zth{w:World}{a:Option Addr}{n cap N:Nat}{ss:List RawSt}(hr:Reads w w.heap.size 10 a n (ss.flatMap Zdi))(hn:n=ss.length)(bt:∀ s∈ss,RawOk s)(h1:1<=N)(h5:N<=5)(cp:n<9223372036854775807):
  Calls prog 13 #[.slice a n cap,.int .i64 N] w λ e w'=>∃ v,e = .returned v/\w'.ownsRow w.heap.size 36 10 v (Zs7 N ss).length ((Zs7 N ss).flatMap stL)/\Below w.heap.size w w':=by
 obtain⟨i0,hi,fe,dI,ff⟩:=info_parts Ztl;obtain⟨HR,HN,ap⟩:=ZH3 hr hn bt;have HO:Hid ((w.alloc (.cells #[] 36)).ownsRow w.heap.size 36 10 (.slice (some ⟨w.heap.size,0,none⟩) 0 0) 0 (((ss.take 0).map (Zs1 N)).flatMap stL)):=ZH (Ztc w 36 10);have HK:=ZH ((ZKr w).alloc (.cells #[] 36));have hm:min n 60<=n:=Nat.min_le_left _ _;clear hr hn bt;go_enter func13,ntmps13;go_wp2_with fail;go_loopw [5,6] (λ v i wr=>∃ q:Nat,q<=n/\q<=60/\i = .int .i64 q/\Hid (wr.ownsRow w.heap.size 36 10 v q (((ss.take q).map (Zs1 N)).flatMap stL))/\Hid (Kept w.heap.size w wr)) (λ _ i _=>n-(intOf i).toNat)
 case atStart=>exact⟨0,ZO,ZO,rfl,HO,HK⟩
 case round =>
  clear HO HK;obtain⟨q,hq,hq6,rfl,HO,HK⟩:=hrel;obtain⟨av,cv,rfl⟩:=Zs HO.out;by_cases dA:q<n
  ·by_cases hq60:q<60
   ·obtain⟨s,he⟩:∃ s,ss[q]? = some s:=⟨_,ZX (by rw[←HN.out];exact dA)⟩;have cL:=ZH (ap.out s (ZY he));obtain⟨bk,off,rfl,b4,hc⟩:=ZsX (HR.out.below HK.out.below) HN.out he;have c0:=hc 0 _ rfl;have c1:=hc 1 _ rfl;have c2:=hc 2 _ rfl;have c3:=hc 3 _ rfl;have c4:=hc 4 _ rfl;have c5:=hc 5 _ rfl;have c6:=hc 6 _ rfl;have c7:=hc 7 _ rfl;have c8:=hc 8 _ rfl;have c9:=hc 9 _ rfl;simp only[Nat.add_zero] at c0;have ex:((ss.take (q+1)).map (Zs1 N)).flatMap stL=((ss.take q).map (Zs1 N)).flatMap stL++stL (Zs1 N s):=by
     rw[List.take_add_one,he];simp
    have eT:=ZH ex;clear he ex hc;go_wp2_with fail;refine(Ztn s N h1 h5 cL.out wr).mono ?_;rintro _ w1 ⟨rfl,aF⟩;have en:=HK.out.step aF;have et:=Ze HO.out aF;have bO:=ZH (et.alloc (.cells (Zs4 (Zs1 N s)) 36));have dt:=en.alloc (.cells (Zs4 (Zs1 N s)) 36);have eQ:Hid (Reads (w1.alloc (.cells (Zs4 (Zs1 N s)) 36)) _ 10 (some ⟨w1.heap.size,0,none⟩) 1 (stL (Zs1 N s))):=ZH (Reads.ao (ZBn w1 36 _) rfl);have e0:=dt.le;have aV:=ZH dt
    have bp:Hid (∀ u∈stL (Zs1 N s),u.oneCell'=true):=ZH (λ u hu=>by
     simp[stL] at hu
     rcases hu with rfl | rfl | rfl | rfl | rfl | rfl | rfl | rfl | rfl | rfl <;> rfl)
    clear aF en et dt c0 c1 c2 c3 c4 c5 c6 c7 c8 c9
    go_wp2_with (first
     |(at_builtin
       refine Zc _ rfl (.tmp 18) (.tmp 25) _ rfl w.heap.size 36 i0 _ 10 96 underlying24 hi fe dI ff rfl ZO (.slice av q cv) q (((ss.take q).map (Zs1 N)).flatMap stL) rfl bO.out _ (some ⟨w1.heap.size,0,none⟩) 1 1 (stL (Zs1 N s)) rfl eQ.out bp.out ZF ZO e0 ?_;intro v7 w7 bg dp _;rw[←eT.out] at bg;have eN:Hid (Kept w.heap.size w w7):=ZH (⟨aV.out.below.grown dp aV.out.le (λ g hg=>(Zb bO.out hg).1),ZT aV.out.le dp.size⟩);have eP:=ZH bg
       clear bg dp ))
    go_roundw
    case rel=>exact⟨q+1,ZO,ZO,ZN,eP,eN⟩
    case measure=>simp[intOf];omega
   ·obtain rfl:q=60:=ZO;go_wp2
    go_ret;refine⟨_,rfl,?_,HK.out.below⟩;have e:(Zs7 N ss).length=60:=by unfold Zs7;rw[List.length_map,ZV];have:=HN.out;omega
    rw[e];exact HO.out
  ·obtain rfl:q=n:=ZO;go_wp2
   go_ret;refine⟨_,rfl,?_,HK.out.below⟩;have e:(Zs7 N ss).length=q:=by unfold Zs7;rw[List.length_map,ZV];have:=HN.out;omega
   have e2:ss.take q=ss.take 60:=by rw[ZU (by have:=HN.out;omega),ZU (by have:=HN.out;omega)]
   rw[e];rw[show Zs7 N ss=(ss.take q).map (Zs1 N) from by rw[e2];rfl];exact HO.out
section
def Zs8(s:HubSt):Clk:=if s.up=true then lenOf s.sh else ZCz
section
variable {c:Cfg}{B B':Bd}{m b r k:Nat}{x y:WS}{s:St}{a:PN}
theorem WInv.a9(h:WInv c B m b x)(hc:c.Ok)(hu:x.hub.s.up=true)(i:Nat):(Zs8 x.hub.s).get i=B.hub i:=by
 obtain⟨H,hH,hi,ez⟩:=h.hub;obtain⟨g1,g2,g3⟩:=hi.up hu;have hl:=hi.inv.len;rw[g3] at hl;have h5:=hc.n5;have hh:=hi.hub i;rw[g3] at hh;unfold Zs8;rw[if_pos hu,Zo9 (by simp only at hl;omega),ez hu];exact hh.symm
theorem WInv.a7(h:WInv c B m b x)(hr:r<c.n)(hk:k≠r):(Zbz (x.nodes r).s).clk.get k<=B.hub k:=by
 cases hu:(x.nodes r).s.up with
 | false=>rw[Zi9 hu];simp only;rw[ZbW];exact Nat.zero_le _
 | true =>
  rw[ZlP hu];simp only;rw[(h.nodes r hr).clk hu];exact((h.nodes r hr).log hu).bo hk
theorem WInv.af(h:WInv c B m b x)(hc:c.Ok)(hr:r<c.n)(hu:(x.nodes r).s.up=true):(Zs8 x.hub.s).get r<=(Zbz (x.nodes r).s).clk.get r:=by
 rw[ZlP hu];simp only;rw[(h.nodes r hr).clk hu,←(h.nodes r hr).ak hu,←h.own r hr]
 cases hh:x.hub.s.up with
 | false=>unfold Zs8;rw[if_neg (by simp[hh]),ZbW];exact Nat.zero_le _
 | true =>
  rw[h.a9 hc hh];obtain⟨H,hH,hi,ez⟩:=h.hub;exact ZT (hH r) (hi.aa r)
end
end
section
structure Loc(own:Own)(w:World)(b:Nat)(c:Cfg)(k:Nat)(v:Value)(ss:List St):Prop where
 blk:Blk w b 23 (Zal c)
 mine:own b=0
 row:∃ B,w.ownsRow B 36 10 v ss.length (ss.flatMap stL)
 loose:∀ g,v.ownBlock=some g->own g=k
section
variable {own own':Own}{t p q b k:Nat}{w0 wr w':World}{c:Cfg}{B:Bd}{x:WS}{v:Value}{ss:List St}{s:St}{T:Nat->Prop}
theorem Loc.upd(h:Loc own wr b c k v ss)(hu:Upd T own own' wr w')(h0:¬ T 0)(hk:¬ T k):Loc own' w' b c k v ss:=by
 obtain⟨B,hr⟩:=h.row;refine⟨h.blk.upd hu (by rw[h.mine];exact h0),(hu.old _ h.blk.lt).trans h.mine,⟨B,Zh hr λ g hg hl=>hu.same g hl (by rw[h.loose g hg];exact hk)⟩,λ g hg=>(hu.old g (Zb hr hg).2).trans (h.loose g hg)⟩
theorem Loc.below(h:Loc own wr b c k v ss)(hf:Fresh own wr)(hb:Below wr.heap.size wr w'):Loc own w' b c k v ss:=h.upd (ZUb (T:=λ _=>False) hb hf) (λ h=>h) (λ h=>h)
theorem Ztk{α : Type}{L : α -> List Value}(hL:∀ x,(L x).length=10):∀ (ss:List α) (q:Nat) (s : α),ss[q]? = some s->∀ j u,(L s)[j]? = some u->(ss.flatMap L)[q*10+j]? = some u:=by
 intro ss
 induction ss with
 | nil=>intro q s h;simp at h
 | cons x ss ih =>
  intro q s h j u hj;have hl:=hL x;rw[List.flatMap_cons]
  cases q with
  | zero =>
   simp at h;subst h;have:j<10:=by rw[←hl];exact(ZZ.1 hj).1
   rw[List.getElem?_append_left (by rw[hl];omega),Nat.zero_mul,Nat.zero_add];exact hj
  | succ q =>
   rw[List.getElem?_append_right (by rw[hl];omega),hl,show(q+1)*10+j-10=q*10+j by omega];exact ih q s (by simpa using h) j u hj
theorem Loc.step(h:Loc own wr b c k v ss)(hq:ss[q]? = some s):∃ g cap,v = .slice (some ⟨g,0,none⟩) ss.length cap/\g<wr.heap.size/\∀ j u,(stL s)[j]? = some u->wr.cell? ⟨g,q*10+j,none⟩=some u:=by
 have e7:q<ss.length:=(ZZ.1 hq).1;obtain⟨B,hr⟩:=h.row;obtain⟨a,cap,rfl⟩:=Zs hr;obtain⟨g,rfl,dq,hc⟩:=Zby hr ZO;refine⟨g,cap,rfl,dq,λ j u hj=>?_⟩;have h1:=Ztk (L:=stL) (λ _=>rfl) ss q s hq j u hj;exact(hc _ (ZZ.1 h1).1).trans h1
theorem Loc.slice(h:Loc own wr b c k v ss):∃ a cap,v = .slice a ss.length cap:=by
 obtain⟨B,hr⟩:=h.row;exact Zs hr
theorem nwk:¬ Zp 1 900000:=λ h=>absurd h.2 ZJ
theorem Loc.make(hb:Blk wr b 23 (Zal c))(ho:own b=0)(hf:Fresh own wr)(hr:w'.ownsRow wr.heap.size 36 10 v ss.length (ss.flatMap stL))(b4:Below wr.heap.size wr w'):Loc own w' b c 0 v ss :=
 ⟨hb.ob b4,ho,⟨_,hr⟩,λ g hg=>hf g (Zb hr hg).1⟩
theorem Ztf(n:Nat)(ss:List RawSt):(Zs7 n ss).length<=60:=by unfold Zs7;rw[List.length_map,ZV];omega
theorem Ztg{ss:List RawSt}(hc:c.Ok)(h:∀ s∈ss,RawOk s):∀ s∈Zs7 c.n ss,StOk c s:=by
 intro s hs;unfold Zs7 at hs;obtain⟨r,hr,rfl⟩:=List.mem_map.1 hs;exact Zte hc (h r (List.mem_of_mem_take hr))
theorem Blk.a5{w:World}{g:Nat}{ty:TypeId}{u:Bool}{k:Clk}{sent:Nat}{vh vl:Value}(h:Blk w g ty (Zx u k sent vh vl)){i:Nat}(hi:i<5):w.cell? ⟨g,1+i,none⟩=some (.int .i64 (k.get i)):=by
 have h5:i=0∨i=1∨i=2∨i=3∨i=4:=ZO;rcases h5 with rfl | rfl | rfl | rfl | rfl
 ·exact h.cell 1
 ·exact h.cell 2
 ·exact h.cell 3
 ·exact h.cell 4
 ·exact h.cell 5
theorem Blk.hubLen{w:World}{g:Nat}{ty:TypeId}{u:Bool}{b l:Clk}{ac:List Clk}(h:Blk w g ty (Zt u b l ac)){i:Nat}(hi:i<5):w.cell? ⟨g,6+i,none⟩=some (.int .i64 (l.get i)):=by
 have hc:∀ k v,([.bool u,.int .i64 (b.c0:Int),.int .i64 (b.c1:Int),.int .i64 (b.c2:Int),.int .i64 (b.c3:Int),.int .i64 (b.c4:Int),.int .i64 (l.c0:Int),.int .i64 (l.c1:Int),.int .i64 (l.c2:Int),.int .i64 (l.c3:Int),.int .i64 (l.c4:Int)]:List Value)[k]? = some v->w.cell? ⟨g,k,none⟩=some v:=λ k v hk=>by
  have e7:k<11:=by
   have:=(ZZ.1 hk).1;simpa using this
  rw[h.cell];unfold Zt;rw[Array.getElem?_append_left ZP];simpa using hk
 have h5:i=0∨i=1∨i=2∨i=3∨i=4:=ZO;rcases h5 with rfl | rfl | rfl | rfl | rfl <;> exact hc _ _ rfl
abbrev Zto:Array Value:=Zt false ZCz ZCz (List.replicate 5 ZCz)
abbrev Zs6:Array Value:=Zx false ZCz 0 (.slice none 0 0) (.slice none 0 0)
end
end
end Go.Proofs.YtjkfognelhiepaaGreat
