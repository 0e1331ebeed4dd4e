import Derived.Test.YtjkfognelhiepaaGreatR11
import Derived.ProofKit
import Derived.OpenShut
import Derived.ShutString
import Derived.ChangeOld
import Derived.Deep.Slices
import Derived.Deep.Fields
import Derived.ChangeSame
import Derived.SizedLaws
import Derived.Lib.SmallJoins
import Derived.RangeFuncRecord
namespace Go.Proofs.YtjkfognelhiepaaGreat
open Go.RowKit _root_.Go.Proofs.Tryz
open Value renaming slice→S_,int→I_,bool→B_,string→T_,pointer→P_
open IntKind renaming i64→J_
open Obj renaming cells→C_
open Ending renaming returned→R_
set_option maxRecDepth 100000
set_option maxHeartbeats 8000000
variable{a:Option Addr}{c:Cfg}{cap k n q r t:Nat}{f:Frm}{l:List Nat}{v:Value}{w:World}
abbrev ZcD(s:St):Array Value:=#[I_ J_ s.kind,I_ J_ s.r,I_ J_ s.ek,T_ s.key,I_ J_ s.label,T_ s.value,I_ J_ s.at_,I_ J_ s.bit,.int .u32 s.mask,I_ J_ s.keep]
abbrev Zuh(s:St):Value := .agg (ZcD s)
theorem Blk.ba{g:Nat}{ty:TypeId}{v0 v1 v2 v3 v4 v5 v6 v7 v8 v9:Value}(h:Blk w g ty #[v0,v1,v2,v3,v4,v5,v6,v7,v8,v9]):w.cell? ⟨g,0,none⟩=some v0/\w.cell? ⟨g,1,none⟩=some v1/\w.cell? ⟨g,2,none⟩=some v2/\w.cell? ⟨g,3,none⟩=some v3/\w.cell? ⟨g,4,none⟩=some v4/\w.cell? ⟨g,5,none⟩=some v5/\w.cell? ⟨g,6,none⟩=some v6/\w.cell? ⟨g,7,none⟩=some v7/\w.cell? ⟨g,8,none⟩=some v8/\w.cell? ⟨g,9,none⟩=some v9 :=
 ⟨h.cell 0,h.cell 1,h.cell 2,h.cell 3,h.cell 4,h.cell 5,h.cell 6,h.cell 7,h.cell 8,h.cell 9⟩
theorem ZmA(x:Int){k:Int}(hk:0<k)(cX:k<=1000):(wrap64 (x.tmod k+k)).tmod k=((ZfN x k).toNat:Int):=by
 have h1:=Int.tmod_lt_of_pos x hk;have h2 : -k<x.tmod k:=by
  have:=Int.tmod_lt_of_pos (-x) hk;rw[Int.neg_tmod]at this;omega
 have h3:=Zep x hk;have e0:wrap64 (x.tmod k+k)=x.tmod k+k:=w64 ZO ZO;have e:(x.tmod k+k).tmod k=ZfN x k:=rfl;rw[e0,e];omega
theorem ZuT(s:RawSt)(n:Nat)(h1:1<=n)(h5:n<=5)(hs:RawOk s)(w:World):
  Calls prog 31 #[.agg #[I_ J_ s.kind,I_ J_ s.r,I_ J_ s.ek,T_ s.key,I_ J_ s.label,T_ s.value,I_ J_ s.at_,I_ J_ s.bit,.int .u32 s.mask,I_ J_ s.keep],I_ J_ n] w (Zx (Zuh (ZbZ n s)) w):=by
 have hb:=(ZBn w 36 #[I_ J_ s.kind,I_ J_ s.r,I_ J_ s.ek,T_ s.key,I_ J_ s.label,T_ s.value,I_ J_ s.at_,I_ J_ s.bit,.int .u32 s.mask,I_ J_ s.keep]).alloc (C_ #[I_ J_ 0,I_ J_ 0,I_ J_ 0,T_ ByteArray.empty,I_ J_ 0,T_ ByteArray.empty,I_ J_ 0,I_ J_ 0,.int .u32 0,I_ J_ 0] 36);obtain⟨c0,c1,c2,c3,c4,c5,c6,c7,c8,c9⟩:=hb.ba;have hl:=hb.lt;clear hb;have Q7:(wrap64 (s.kind.tmod 12+12)).tmod 12=(Zdc s:Int):=ZmA s.kind ZO ZO;obtain⟨R,hR⟩:∃R,R=(ZfN s.r (n+1)).toNat:=⟨_,rfl⟩;have VA:(wrap64 (wrap64 (s.r.tmod ((n:Int)+1)+(n:Int))+1)).tmod ((n:Int)+1)=(R:Int):=by
  rw[hR,←ZmA s.r ZO ZO];have b1:=Int.tmod_lt_of_pos s.r (show 0<(n:Int)+1 by omega);have b2 : -((n:Int)+1)<s.r.tmod ((n:Int)+1):=by
   have:=Int.tmod_lt_of_pos (-s.r) (show 0<(n:Int)+1 by omega);rw[Int.neg_tmod]at this;omega
  generalize s.r.tmod ((n:Int)+1)=z at *;have e:wrap64 (wrap64 (z+(n:Int))+1)=wrap64 (z+((n:Int)+1)):=by unfold wrap64;omega
  rw[e]
 have NL:=ZgU s;have Q5:ZgV n s=if R=n then(if Zdc s<8∨Zdc s=11 then 0 else 5) else R:=by rw[hR];rfl
 have xg:=ZH Q5;obtain⟨K,hK⟩:∃K,K=Zdc s:=⟨_,rfl⟩;rw[←hK]at Q7 NL xg;obtain⟨kH,yV,xt⟩:=ZH3 hK Q7 VA;have F9:R<=n:=by
  have:=Zep s.r (k:=(n:Int)+1) ZO;omega
 clear hK Q5 hR;have xc:=ZH (Ztk s.ek s.key s.label s.value · hs.key hs.value);go_enter func31,ntmps31;by_cases hr:R=n
 ·by_cases h8:K<8
  ·obtain⟨mi,KJ⟩:=ZH2 hr h8;go_wp2_with fail;have cP:=(ZBn w 36 #[I_ J_ (K:Int),I_ J_ 0,I_ J_ s.ek,T_ s.key,I_ J_ s.label,T_ s.value,I_ J_ s.at_,I_ J_ s.bit,.int .u32 s.mask,I_ J_ s.keep]).alloc (C_ #[I_ J_ 0,I_ J_ 0,I_ J_ 0,T_ ⟨#[]⟩,I_ J_ 0,T_ ⟨#[]⟩,I_ J_ 0,I_ J_ 0,.int .u32 0,I_ J_ 0] 36);have cz:=ZBn (w.alloc (C_ #[I_ J_ (K:Int),I_ J_ 0,I_ J_ s.ek,T_ s.key,I_ J_ s.label,T_ s.value,I_ J_ s.at_,I_ J_ s.bit,.int .u32 s.mask,I_ J_ s.keep] 36)) 36 #[I_ J_ 0,I_ J_ 0,I_ J_ 0,T_ ⟨#[]⟩,I_ J_ 0,T_ ⟨#[]⟩,I_ J_ 0,I_ J_ 0,.int .u32 0,I_ J_ 0];rw[World.size_alloc]at cz;have cR:=((ZKr w).alloc (C_ #[I_ J_ (K:Int),I_ J_ 0,I_ J_ s.ek,T_ s.key,I_ J_ s.label,T_ s.value,I_ J_ s.at_,I_ J_ s.bit,.int .u32 s.mask,I_ J_ s.keep] 36)).alloc (C_ #[I_ J_ 0,I_ J_ 0,I_ J_ 0,T_ ⟨#[]⟩,I_ J_ 0,T_ ⟨#[]⟩,I_ J_ 0,I_ J_ 0,.int .u32 0,I_ J_ 0] 36);refine(xc.out _).mono ?_;generalize (w.alloc (C_ #[I_ J_ (K:Int),I_ J_ 0,I_ J_ s.ek,T_ s.key,I_ J_ s.label,T_ s.value,I_ J_ s.at_,I_ J_ s.bit,.int .u32 s.mask,I_ J_ s.keep] 36)).alloc (C_ #[I_ J_ 0,I_ J_ 0,I_ J_ 0,T_ ⟨#[]⟩,I_ J_ 0,T_ ⟨#[]⟩,I_ J_ 0,I_ J_ 0,.int .u32 0,I_ J_ 0] 36)=W at *;rintro _ w1 ⟨rfl,hb⟩;obtain⟨HB,HK⟩:=ZH2 (cz.ob hb) (cR.step hb);have hc:=cP.ob hb;clear cP cz cR hb;obtain⟨c0,c1,c2,c3,c4,c5,c6,c7,c8,c9⟩:=hc.ba;have hl:=hc.lt;have hf:=λi=>hc.frozen i
   obtain⟨d0,d1,d2,d3,d4,d5,d6,d7,d8,d9⟩:=HB.out.ba;have jc:=HB.out.lt;have Kg:=λi=>HB.out.frozen i
   clear hc;go_wp2_with fail;have gm:ZgV n s=0:=by rw[xg.out];rw[ZPp mi.out,ZPp (.inl KJ.out)]
   have dz:=Zal (vs:=ZcD ⟨K,0,kindF s.ek,keyF (ZbB s.key s.key.size),labF (kindF s.ek) s.label,valueF (kindF s.ek) s.value,s.at_,s.bit,s.mask.toNat,s.keep,false⟩) ((Zai (show w.heap.size+1≠w.heap.size by omega) [I_ J_ (kindF s.ek:Int),T_ (keyF (ZbB s.key s.key.size)),I_ J_ (labF (kindF s.ek) s.label:Int),T_ (valueF (kindF s.ek) s.value)] 2 w1).trans HB.out) rfl;have m8:=Zaf (Zaf HK.out (g:=w.heap.size) (ZL _) 2 [I_ J_ (kindF s.ek:Int),T_ (keyF (ZbB s.key s.key.size)),I_ J_ (labF (kindF s.ek) s.label:Int),T_ (valueF (kindF s.ek) s.value)]) (g:=w.heap.size+1) ZO 0 (ZcD ⟨K,0,kindF s.ek,keyF (ZbB s.key s.key.size),labF (kindF s.ek) s.label,valueF (kindF s.ek) s.value,s.at_,s.bit,s.mask.toNat,s.keep,false⟩).toList;have j6:s.mask=((s.mask.toNat:Nat):Int):=by have:=hs.mask0;omega
   have e:ZbZ n s=⟨K,0,kindF s.ek,keyF (ZbB s.key s.key.size),labF (kindF s.ek) s.label,valueF (kindF s.ek) s.value,s.at_,s.bit,s.mask.toNat,s.keep,false⟩:=by unfold ZbZ;rw[gm,←kH.out]
   rw[e];rw[j6];refine bodyPost_ret (Z6 rfl rfl (run_loadVar_row _ _ _ _ _ _ _ dz underlying36 rfl ZK)) rfl ?_;exact⟨rfl,m8.below⟩
  ·by_cases so:K=11
   focus
    obtain⟨mi,Aw⟩:=ZH2 hr so;have jr:((K:Int)==11)=true:=by rw[so];rfl
    clear so;go_wp2_with fail;have cP:=(ZBn w 36 #[I_ J_ (K:Int),I_ J_ 0,I_ J_ s.ek,T_ s.key,I_ J_ s.label,T_ s.value,I_ J_ s.at_,I_ J_ s.bit,.int .u32 s.mask,I_ J_ s.keep]).alloc (C_ #[I_ J_ 0,I_ J_ 0,I_ J_ 0,T_ ⟨#[]⟩,I_ J_ 0,T_ ⟨#[]⟩,I_ J_ 0,I_ J_ 0,.int .u32 0,I_ J_ 0] 36);have cz:=ZBn (w.alloc (C_ #[I_ J_ (K:Int),I_ J_ 0,I_ J_ s.ek,T_ s.key,I_ J_ s.label,T_ s.value,I_ J_ s.at_,I_ J_ s.bit,.int .u32 s.mask,I_ J_ s.keep] 36)) 36 #[I_ J_ 0,I_ J_ 0,I_ J_ 0,T_ ⟨#[]⟩,I_ J_ 0,T_ ⟨#[]⟩,I_ J_ 0,I_ J_ 0,.int .u32 0,I_ J_ 0];rw[World.size_alloc]at cz;have cR:=((ZKr w).alloc (C_ #[I_ J_ (K:Int),I_ J_ 0,I_ J_ s.ek,T_ s.key,I_ J_ s.label,T_ s.value,I_ J_ s.at_,I_ J_ s.bit,.int .u32 s.mask,I_ J_ s.keep] 36)).alloc (C_ #[I_ J_ 0,I_ J_ 0,I_ J_ 0,T_ ⟨#[]⟩,I_ J_ 0,T_ ⟨#[]⟩,I_ J_ 0,I_ J_ 0,.int .u32 0,I_ J_ 0] 36);refine(xc.out _).mono ?_;generalize (w.alloc (C_ #[I_ J_ (K:Int),I_ J_ 0,I_ J_ s.ek,T_ s.key,I_ J_ s.label,T_ s.value,I_ J_ s.at_,I_ J_ s.bit,.int .u32 s.mask,I_ J_ s.keep] 36)).alloc (C_ #[I_ J_ 0,I_ J_ 0,I_ J_ 0,T_ ⟨#[]⟩,I_ J_ 0,T_ ⟨#[]⟩,I_ J_ 0,I_ J_ 0,.int .u32 0,I_ J_ 0] 36)=W at *;rintro _ w1 ⟨rfl,hb⟩;obtain⟨HB,HK⟩:=ZH2 (cz.ob hb) (cR.step hb);have hc:=cP.ob hb;clear cP cz cR hb;obtain⟨c0,c1,c2,c3,c4,c5,c6,c7,c8,c9⟩:=hc.ba;have hl:=hc.lt;have hf:=λi=>hc.frozen i
    obtain⟨d0,d1,d2,d3,d4,d5,d6,d7,d8,d9⟩:=HB.out.ba;have jc:=HB.out.lt;have Kg:=λi=>HB.out.frozen i
    clear hc;go_wp2_with fail;have gm:ZgV n s=0:=by rw[xg.out];rw[ZPp mi.out,ZPp (.inr Aw.out)]
    have dz:=Zal (vs:=ZcD ⟨K,0,kindF s.ek,keyF (ZbB s.key s.key.size),labF (kindF s.ek) s.label,valueF (kindF s.ek) s.value,s.at_,s.bit,s.mask.toNat,s.keep,false⟩) ((Zai (show w.heap.size+1≠w.heap.size by omega) [I_ J_ (kindF s.ek:Int),T_ (keyF (ZbB s.key s.key.size)),I_ J_ (labF (kindF s.ek) s.label:Int),T_ (valueF (kindF s.ek) s.value)] 2 w1).trans HB.out) rfl;have m8:=Zaf (Zaf HK.out (g:=w.heap.size) (ZL _) 2 [I_ J_ (kindF s.ek:Int),T_ (keyF (ZbB s.key s.key.size)),I_ J_ (labF (kindF s.ek) s.label:Int),T_ (valueF (kindF s.ek) s.value)]) (g:=w.heap.size+1) ZO 0 (ZcD ⟨K,0,kindF s.ek,keyF (ZbB s.key s.key.size),labF (kindF s.ek) s.label,valueF (kindF s.ek) s.value,s.at_,s.bit,s.mask.toNat,s.keep,false⟩).toList;have j6:s.mask=((s.mask.toNat:Nat):Int):=by have:=hs.mask0;omega
    have e:ZbZ n s=⟨K,0,kindF s.ek,keyF (ZbB s.key s.key.size),labF (kindF s.ek) s.label,valueF (kindF s.ek) s.value,s.at_,s.bit,s.mask.toNat,s.keep,false⟩:=by unfold ZbZ;rw[gm,←kH.out]
   rotate_left
   focus
    obtain⟨mi,Aw,KJ⟩:=ZH3 hr so h8;have jr:((K:Int)==11)=false:=ZP;go_wp2_with fail;have cP:=(ZBn w 36 #[I_ J_ (K:Int),I_ J_ 5,I_ J_ s.ek,T_ s.key,I_ J_ s.label,T_ s.value,I_ J_ s.at_,I_ J_ s.bit,.int .u32 s.mask,I_ J_ s.keep]).alloc (C_ #[I_ J_ 0,I_ J_ 0,I_ J_ 0,T_ ⟨#[]⟩,I_ J_ 0,T_ ⟨#[]⟩,I_ J_ 0,I_ J_ 0,.int .u32 0,I_ J_ 0] 36);have cz:=ZBn (w.alloc (C_ #[I_ J_ (K:Int),I_ J_ 5,I_ J_ s.ek,T_ s.key,I_ J_ s.label,T_ s.value,I_ J_ s.at_,I_ J_ s.bit,.int .u32 s.mask,I_ J_ s.keep] 36)) 36 #[I_ J_ 0,I_ J_ 0,I_ J_ 0,T_ ⟨#[]⟩,I_ J_ 0,T_ ⟨#[]⟩,I_ J_ 0,I_ J_ 0,.int .u32 0,I_ J_ 0];rw[World.size_alloc]at cz;have cR:=((ZKr w).alloc (C_ #[I_ J_ (K:Int),I_ J_ 5,I_ J_ s.ek,T_ s.key,I_ J_ s.label,T_ s.value,I_ J_ s.at_,I_ J_ s.bit,.int .u32 s.mask,I_ J_ s.keep] 36)).alloc (C_ #[I_ J_ 0,I_ J_ 0,I_ J_ 0,T_ ⟨#[]⟩,I_ J_ 0,T_ ⟨#[]⟩,I_ J_ 0,I_ J_ 0,.int .u32 0,I_ J_ 0] 36);refine(xc.out _).mono ?_;generalize (w.alloc (C_ #[I_ J_ (K:Int),I_ J_ 5,I_ J_ s.ek,T_ s.key,I_ J_ s.label,T_ s.value,I_ J_ s.at_,I_ J_ s.bit,.int .u32 s.mask,I_ J_ s.keep] 36)).alloc (C_ #[I_ J_ 0,I_ J_ 0,I_ J_ 0,T_ ⟨#[]⟩,I_ J_ 0,T_ ⟨#[]⟩,I_ J_ 0,I_ J_ 0,.int .u32 0,I_ J_ 0] 36)=W at *;rintro _ w1 ⟨rfl,hb⟩;obtain⟨HB,HK⟩:=ZH2 (cz.ob hb) (cR.step hb);have hc:=cP.ob hb;clear cP cz cR hb;obtain⟨c0,c1,c2,c3,c4,c5,c6,c7,c8,c9⟩:=hc.ba;have hl:=hc.lt;have hf:=λi=>hc.frozen i
    obtain⟨d0,d1,d2,d3,d4,d5,d6,d7,d8,d9⟩:=HB.out.ba;have jc:=HB.out.lt;have Kg:=λi=>HB.out.frozen i
    clear hc;go_wp2_with fail;have gm:ZgV n s=5:=by rw[xg.out];rw[ZPp mi.out,ZPn (λh=>h.elim KJ.out Aw.out)]
    have dz:=Zal (vs:=ZcD ⟨K,5,kindF s.ek,keyF (ZbB s.key s.key.size),labF (kindF s.ek) s.label,valueF (kindF s.ek) s.value,s.at_,s.bit,s.mask.toNat,s.keep,false⟩) ((Zai (show w.heap.size+1≠w.heap.size by omega) [I_ J_ (kindF s.ek:Int),T_ (keyF (ZbB s.key s.key.size)),I_ J_ (labF (kindF s.ek) s.label:Int),T_ (valueF (kindF s.ek) s.value)] 2 w1).trans HB.out) rfl;have m8:=Zaf (Zaf HK.out (g:=w.heap.size) (ZL _) 2 [I_ J_ (kindF s.ek:Int),T_ (keyF (ZbB s.key s.key.size)),I_ J_ (labF (kindF s.ek) s.label:Int),T_ (valueF (kindF s.ek) s.value)]) (g:=w.heap.size+1) ZO 0 (ZcD ⟨K,5,kindF s.ek,keyF (ZbB s.key s.key.size),labF (kindF s.ek) s.label,valueF (kindF s.ek) s.value,s.at_,s.bit,s.mask.toNat,s.keep,false⟩).toList;have j6:s.mask=((s.mask.toNat:Nat):Int):=by have:=hs.mask0;omega
    have e:ZbZ n s=⟨K,5,kindF s.ek,keyF (ZbB s.key s.key.size),labF (kindF s.ek) s.label,valueF (kindF s.ek) s.value,s.at_,s.bit,s.mask.toNat,s.keep,false⟩:=by unfold ZbZ;rw[gm,←kH.out]
   rotate_left
   all_goals
    rw[e];rw[j6];refine bodyPost_ret (Z6 rfl rfl (run_loadVar_row _ _ _ _ _ _ _ dz underlying36 rfl ZK)) rfl ?_;exact⟨rfl,m8.below⟩
 ·have mi:=ZH hr;have hbr:((R:Int)==(n:Int))=false:=ZP;go_wp2_with fail;have cP:=(ZBn w 36 #[I_ J_ (K:Int),I_ J_ (R:Int),I_ J_ s.ek,T_ s.key,I_ J_ s.label,T_ s.value,I_ J_ s.at_,I_ J_ s.bit,.int .u32 s.mask,I_ J_ s.keep]).alloc (C_ #[I_ J_ 0,I_ J_ 0,I_ J_ 0,T_ ⟨#[]⟩,I_ J_ 0,T_ ⟨#[]⟩,I_ J_ 0,I_ J_ 0,.int .u32 0,I_ J_ 0] 36);have cz:=ZBn (w.alloc (C_ #[I_ J_ (K:Int),I_ J_ (R:Int),I_ J_ s.ek,T_ s.key,I_ J_ s.label,T_ s.value,I_ J_ s.at_,I_ J_ s.bit,.int .u32 s.mask,I_ J_ s.keep] 36)) 36 #[I_ J_ 0,I_ J_ 0,I_ J_ 0,T_ ⟨#[]⟩,I_ J_ 0,T_ ⟨#[]⟩,I_ J_ 0,I_ J_ 0,.int .u32 0,I_ J_ 0];rw[World.size_alloc]at cz;have cR:=((ZKr w).alloc (C_ #[I_ J_ (K:Int),I_ J_ (R:Int),I_ J_ s.ek,T_ s.key,I_ J_ s.label,T_ s.value,I_ J_ s.at_,I_ J_ s.bit,.int .u32 s.mask,I_ J_ s.keep] 36)).alloc (C_ #[I_ J_ 0,I_ J_ 0,I_ J_ 0,T_ ⟨#[]⟩,I_ J_ 0,T_ ⟨#[]⟩,I_ J_ 0,I_ J_ 0,.int .u32 0,I_ J_ 0] 36);refine(xc.out _).mono ?_;generalize (w.alloc (C_ #[I_ J_ (K:Int),I_ J_ (R:Int),I_ J_ s.ek,T_ s.key,I_ J_ s.label,T_ s.value,I_ J_ s.at_,I_ J_ s.bit,.int .u32 s.mask,I_ J_ s.keep] 36)).alloc (C_ #[I_ J_ 0,I_ J_ 0,I_ J_ 0,T_ ⟨#[]⟩,I_ J_ 0,T_ ⟨#[]⟩,I_ J_ 0,I_ J_ 0,.int .u32 0,I_ J_ 0] 36)=W at *;rintro _ w1 ⟨rfl,hb⟩;obtain⟨HB,HK⟩:=ZH2 (cz.ob hb) (cR.step hb);have hc:=cP.ob hb;clear cP cz cR hb;obtain⟨c0,c1,c2,c3,c4,c5,c6,c7,c8,c9⟩:=hc.ba;have hl:=hc.lt;have hf:=λi=>hc.frozen i
  obtain⟨d0,d1,d2,d3,d4,d5,d6,d7,d8,d9⟩:=HB.out.ba;have jc:=HB.out.lt;have Kg:=λi=>HB.out.frozen i
  clear hc;go_wp2_with fail;have gm:ZgV n s=R:=by rw[xg.out];rw[ZPn mi.out]
  have dz:=Zal (vs:=ZcD ⟨K,R,kindF s.ek,keyF (ZbB s.key s.key.size),labF (kindF s.ek) s.label,valueF (kindF s.ek) s.value,s.at_,s.bit,s.mask.toNat,s.keep,false⟩) ((Zai (show w.heap.size+1≠w.heap.size by omega) [I_ J_ (kindF s.ek:Int),T_ (keyF (ZbB s.key s.key.size)),I_ J_ (labF (kindF s.ek) s.label:Int),T_ (valueF (kindF s.ek) s.value)] 2 w1).trans HB.out) rfl;have m8:=Zaf (Zaf HK.out (g:=w.heap.size) (ZL _) 2 [I_ J_ (kindF s.ek:Int),T_ (keyF (ZbB s.key s.key.size)),I_ J_ (labF (kindF s.ek) s.label:Int),T_ (valueF (kindF s.ek) s.value)]) (g:=w.heap.size+1) ZO 0 (ZcD ⟨K,R,kindF s.ek,keyF (ZbB s.key s.key.size),labF (kindF s.ek) s.label,valueF (kindF s.ek) s.value,s.at_,s.bit,s.mask.toNat,s.keep,false⟩).toList;have j6:s.mask=((s.mask.toNat:Nat):Int):=by have:=hs.mask0;omega
  have e:ZbZ n s=⟨K,R,kindF s.ek,keyF (ZbB s.key s.key.size),labF (kindF s.ek) s.label,valueF (kindF s.ek) s.value,s.at_,s.bit,s.mask.toNat,s.keep,false⟩:=by unfold ZbZ;rw[gm,←kH.out]
  rw[e];rw[j6];refine bodyPost_ret (Z6 rfl rfl (run_loadVar_row _ _ _ _ _ _ _ dz underlying36 rfl ZK)) rfl ?_;exact⟨rfl,m8.below⟩
section
open Go.RowKit Go.ChangeShapes Go.WideShapes Go.Deep
def Zci(s:RawSt):List Value:=[I_ J_ s.kind,I_ J_ s.r,I_ J_ s.ek,T_ s.key,I_ J_ s.label,T_ s.value,I_ J_ s.at_,I_ J_ s.bit,.int .u32 s.mask,I_ J_ s.keep]
theorem Ztp{α : Type}{l:List α}(h:l.length=4):∃a b c d,l=[a,b,c,d]:=by
 match l,h with
 | [a,b,c,d],_=>exact⟨a,b,c,d,rfl⟩
theorem Ztq{α : Type}{l:List α}(h:l.length=6):∃a b c d e f,l=[a,b,c,d,e,f]:=by
 match l,h with
 | [a,b,c,d,e,f],_=>exact⟨a,b,c,d,e,f,rfl⟩
theorem ZuV{α : Type}{l:List α}(h:l.length=7):∃a b c d e f g,l=[a,b,c,d,e,f,g]:=by
 match l,h with
 | [a,b,c,d,e,f,g],_=>exact⟨a,b,c,d,e,f,g,rfl⟩
theorem ZuD{α : Type}{l:List α}(h:l.length=10):∃a b c d e f g i j k,l=[a,b,c,d,e,f,g,i,j,k]:=by
 match l,h with
 | [a,b,c,d,e,f,g,i,j,k],_=>exact⟨a,b,c,d,e,f,g,i,j,k,rfl⟩
theorem Zda:prog.cellsOf 3=1:=ZK
theorem Zqi:prog.cellsOf 9=1:=ZK
theorem Zof:prog.cellsOf 33=4:=ZK
theorem Ztx:prog.cellsOf 34=1:=ZK
theorem Zog:prog.cellsOf 36=10:=ZK
theorem Ztw:prog.cellsOf 23=6:=ZK
section
variable {H:Type}{enc:TypeId×Value->H}{w:World}{base:Nat}{spare:Nat->Bool}{held:Bool}
theorem ZcW{t:TypeId}{cs:List Value}{o:Nat}{x:Option (DataW H×List MemPlace)}(h:DataW.trod enc prog w base spare held n t ((cs.drop o).take (prog.cellsOf t))=x)(hk:prog.cellsOf t=k):
  DataW.trod enc prog w base spare held n t ((cs.drop o).take k)=x:=by rw[←hk];exact h
theorem Zq4{cs:List Value}{y:DataW H×List MemPlace}(h:DataW.trod enc prog w base spare held n 33 cs=some y):
  ∃(k l:Int) (key value:ByteArray),cs=[I_ J_ k,.string key,I_ J_ l,.string value]/\y.1=.agg [.lit (.int .i64 k),.lit (.string key.data.toList),.lit (.int .i64 l),.lit (.string value.data.toList)]:=by
 obtain⟨ys,m,rfl,rfl,fg,Aq,hf⟩:=DataW.trod_struct underlying33 h;rw[Zof]at fg;obtain⟨c0,c1,c2,c3,rfl⟩:=Ztp fg;obtain⟨y0,y1,y2,y3,rfl⟩:=Ztp Aq;obtain⟨k,e0,rfl,_⟩:=DataW.trod_int underlying3 (ZcW (hf 0 _ rfl) Zda);obtain⟨key,e1,rfl,_⟩:=DataW.trod_string underlying9 (ZcW (hf 1 _ rfl) Zqi);obtain⟨l,e2,rfl,_⟩:=DataW.trod_int underlying3 (ZcW (hf 2 _ rfl) Zda);obtain⟨value,e3,rfl,_⟩:=DataW.trod_string underlying9 (ZcW (hf 3 _ rfl) Zqi);simp at e0 e1 e2 e3;subst e0 e1 e2 e3;exact⟨k,l,key,value,rfl,rfl⟩
def Zm6(H:Type)(s:RawSt):DataW H := .agg [.lit (.int .i64 s.kind),.lit (.int .i64 s.r),.agg [.lit (.int .i64 s.ek),.lit (.string s.key.data.toList),.lit (.int .i64 s.label),.lit (.string s.value.data.toList)],.lit (.int .i64 s.at_),.lit (.int .i64 s.bit),.lit (.int .u32 s.mask),.lit (.int .i64 s.keep)]
theorem Zu3{n:Int}(h:(Lit.int .u32 n).wf=true):0<=n/\n<4294967296:=by
 have h':=h;simp only[Lit.wf,Bool.and_eq_true,decide_eq_true_eq]at h';have e1:IntKind.u32.min=0:=ZJ;have e2:IntKind.u32.max=4294967295:=ZJ;rw[e1,e2]at h';omega
theorem ZmX{cs:List Value}{y:DataW H×List MemPlace}(h:DataW.trod enc prog w base spare held n 36 cs=some y):
  ∃s:RawSt,cs=Zci s/\y.1=Zm6 H s/\0<=s.mask/\s.mask<4294967296:=by
 obtain⟨ys,m,rfl,rfl,fg,Aq,hf⟩:=DataW.trod_struct underlying36 h;rw[Zog]at fg;obtain⟨c0,c1,c2,c3,c4,c5,c6,c7,c8,c9,rfl⟩:=ZuD fg;obtain⟨y0,y1,y2,y3,y4,y5,y6,rfl⟩:=ZuV Aq;obtain⟨a0,e0,rfl,_⟩:=DataW.trod_int underlying3 (ZcW (hf 0 _ rfl) Zda);obtain⟨a1,e1,rfl,_⟩:=DataW.trod_int underlying3 (ZcW (hf 1 _ rfl) Zda);obtain⟨k,l,key,value,e2,Pz⟩:=Zq4 (ZcW (hf 2 _ rfl) Zof);obtain⟨a3,e3,rfl,_⟩:=DataW.trod_int underlying3 (ZcW (hf 3 _ rfl) Zda);obtain⟨a4,e4,rfl,_⟩:=DataW.trod_int underlying3 (ZcW (hf 4 _ rfl) Zda);obtain⟨a5,e5,rfl,w5⟩:=DataW.trod_int underlying34 (ZcW (hf 5 _ rfl) Ztx);obtain⟨a6,e6,rfl,_⟩:=DataW.trod_int underlying3 (ZcW (hf 6 _ rfl) Zda);simp at e0 e1 e2 e3 e4 e5 e6;obtain⟨rfl,rfl,rfl,rfl⟩:=e2;subst e0 e1 e3 e4 e5 e6;refine⟨⟨a0,a1,k,key,l,value,a3,a4,a5,a6⟩,rfl,?_,Zu3 w5⟩;simp only[List.map,Pz];rfl
theorem Zm7(s:RawSt):s.key.size∈(Zm6 H s).weights prog 36/\s.value.size∈(Zm6 H s).weights prog 36:=by
 simp[Zm6,DataW.weights,DataW.weightsEach,underlying36,underlying33]
theorem Zrb{s:RawSt}(h:∀m∈(Zm6 H s).weights prog 36,m<=reachBytes)(h0:0<=s.mask)(h1:s.mask<4294967296):RawOk s :=
 ⟨h _ (Zm7 s).1,h _ (Zm7 s).2,h0,h1⟩
theorem Zi6{P:Program}{e:TypeId}{d:DataW H}:∀{l:List (DataW H)},d∈l->∀n∈d.weights P e,n∈DataW.weightsAll P e l
 | [],h,_,_=>by cases h
 |x::l,h,n,hn=>by
  simp only[DataW.weightsAll,List.mem_append];rcases List.mem_cons.1 h with rfl|h
  ·exact .inl hn
  ·exact .inr (Zi6 h n hn)
theorem ZuP{r:Reach}{b0:Nat}{d:DataW H}{p:List MemPlace}(hv:Value.okWide prog w r b0 23 v)(h:DataW.Trod enc prog w base spare held 23 v d p):
  ∃x0 x1 x2 x3 x4 x5:Int,v=.agg #[I_ J_ x0,I_ J_ x1,I_ J_ x2,I_ J_ x3,I_ J_ x4,I_ J_ x5]:=by
 obtain⟨cs,rfl,dS⟩:=okWide_struct underlying23 hv;rw[Ztw]at dS;obtain⟨FE,hf⟩:=h;obtain⟨ys,m,rfl,_,fg,Aq,hf⟩:=DataW.trod_struct underlying23 hf;obtain⟨c0,c1,c2,c3,c4,c5,hl⟩:=Ztq (l:=cs.toList) (by simpa using dS);obtain⟨y0,y1,y2,y3,y4,y5,rfl⟩:=Ztq Aq;obtain rfl:cs=#[c0,c1,c2,c3,c4,c5]:=by rw[←Array.toArray_toList (xs:=cs),hl]
 obtain⟨a0,e0,_⟩:=DataW.trod_int underlying3 (ZcW (hf 0 _ rfl) Zda);obtain⟨a1,e1,_⟩:=DataW.trod_int underlying3 (ZcW (hf 1 _ rfl) Zda);obtain⟨a2,e2,_⟩:=DataW.trod_int underlying3 (ZcW (hf 2 _ rfl) Zda);obtain⟨a3,e3,_⟩:=DataW.trod_int underlying3 (ZcW (hf 3 _ rfl) Zda);obtain⟨a4,e4,_⟩:=DataW.trod_int underlying3 (ZcW (hf 4 _ rfl) Zda);obtain⟨a5,e5,_⟩:=DataW.trod_int underlying3 (ZcW (hf 5 _ rfl) Zda);simp[Value.cells]at e0 e1 e2 e3 e4 e5;subst e0 e1 e2 e3 e4 e5;exact⟨a0,a1,a2,a3,a4,a5,rfl⟩
theorem ZuW{r:Reach}{b0:Nat}{d:DataW H}{p:List MemPlace}(hv:Value.okWide prog w r b0 36 v)(h:DataW.Trod enc prog w base spare held 36 v d p)(hz:∀m∈d.weights prog 36,m<=reachBytes):
  ∃s:RawSt,v=.agg (Zci s).toArray/\RawOk s:=by
 obtain⟨cs,rfl,dS⟩:=okWide_struct underlying36 hv;obtain⟨FE,hf⟩:=h;obtain⟨s,hs,hy,h0,h1⟩:=ZmX hf;refine⟨s,?_,Zrb (H:=H) (by rw[←hy];exact hz) h0 h1⟩;have:cs.toList=Zci s:=hs;rw[←this,Array.toArray_toList]
theorem ZoR{w:World}{a:Addr}(h:w.cell? a=some v):a.block<w.heap.size:=by
 rcases Nat.lt_or_ge a.block w.heap.size with cI|lr
 ·exact cI
 ·simp[World.cell?,Array.getElem?_eq_none lr]at h
theorem Zlu{a:Addr}{g:Nat->RawSt}:∀n,(∀i,i<n->∀j,j<10->w.cell? ((a.add (i*10)).add j)=(Zci (g i))[j]?)->∀j u,(((List.range n).map g).flatMap Zci)[j]? = some u->w.cell? (a.add j)=some u
 | 0,_,j,u,h=>by simp at h
 |n+1,hc,j,u,h=>by
  have hl:∀k,(((List.range k).map g).flatMap Zci).length=k*10:=λk=>by
   induction k with
   |zero=>rfl
   |succ k ih=>rw[List.range_succ,List.map_append,List.flatMap_append,ZI,ih];simp[Zci];omega
  rw[List.range_succ,List.map_append,List.flatMap_append]at h;rcases Nat.lt_or_ge j (n*10) with hj|hj
  ·rw[List.getElem?_append_left (by rw[hl];exact hj)]at h;exact Zlu n (λi hi=>hc i ZO) j u h
  ·rw[List.getElem?_append_right (by rw[hl];exact hj),hl]at h;have h2:(Zci (g n))[j-n*10]? = some u:=by simpa using h
   have h3:j-n*10<10:=by
    have:=(ZZ.1 h2).1;simpa [Zci] using this
   have h4:=hc n ZO (j-n*10) h3;rw[ZoL,show n*10+(j-n*10)=j by omega]at h4;rw[h4,h2]
theorem ZuX{r:Reach}{b0:Nat}{d:DataW H}{p:List MemPlace}(hv:Value.okWide prog w r b0 24 v)(h:DataW.Trod enc prog w base spare held 24 v d p)(hz:∀m∈d.weights prog 24,m<=reachBytes):
  ∃a n cap ss,v=S_ a n cap/\n=List.length ss/\(∀s∈ss,RawOk s)/\Reads w w.heap.size 10 a n (ss.flatMap Zci)/\n<9223372036854775807:=by
 obtain⟨a0,kY,mm,rfl⟩:=okWide_slice underlying24 hv;obtain⟨FE,hf⟩:=h;rcases open_slice underlying24 hf with ⟨gC,_⟩|⟨a,len,cap,m,n,D,Pl,gC,_,hl,hm,jp,hx,hi⟩
 ·simp[Value.cells]at gC;obtain⟨rfl,rfl,rfl⟩:=gC;exact⟨none,0,0,[],rfl,rfl,ZM,Reads.none_,ZO⟩
 ·simp[Value.cells]at gC;obtain⟨rfl,rfl,rfl⟩:=gC;simp only[Prod.mk.injEq]at hx;obtain⟨rfl,_⟩:=hx;have Hi:kY<=m:=by rw[jp];split <;> omega
  have yc:∀i:Nat,∃s:RawSt,i<kY->RawOk s/\∀j,j<10->w.cell? ((a.add (i*10)).add j)=(Zci s)[j]? := (λi=>by
   by_cases cI:i<kY
   ·obtain⟨xC,hc,ht⟩:=hi i ZO;rw[Zog]at hc;obtain⟨s,rfl,hy,h0,h1⟩:=ZmX ht;obtain⟨_,_,iy⟩:=World.cells?_some hc;refine⟨s,λ_=>⟨Zrb (H:=H) (λm vi=>hz m ?_) h0 h1,λj hj=>iy j hj⟩⟩;simp only[DataW.weights,underlying24,List.mem_cons,List.mem_append];exact .inr (.inl (Zi6 (List.mem_map.2 ⟨i,List.mem_range.2 cI,hy⟩) m vi))
   ·exact⟨⟨0,0,0,ByteArray.empty,0,ByteArray.empty,0,0,0,0⟩,λh=>absurd h cI⟩)
  obtain⟨g,hg⟩:=Classical.skolem.1 yc;have fm:∀k,(((List.range k).map g).flatMap Zci).length=k*10:=λk=>by
   induction k with
   |zero=>rfl
   |succ k ih=>rw[List.range_succ,List.map_append,List.flatMap_append,ZI,ih];simp[Zci];omega
  refine⟨some a,kY,mm,(List.range kY).map g,rfl,ZM,λs hs=>?_,⟨fm _,λhn=>⟨a,rfl,?_,Zlu kY (λi hi=>(hg i hi).2)⟩⟩,?_⟩
  ·obtain⟨i,hi,rfl⟩:=List.mem_map.1 hs;exact(hg i (List.mem_range.1 hi)).1
  ·have h1:=(hg 0 hn).2 0 ZO;have h2:=ZoR (h1.trans (show(Zci (g 0))[0]? = some (I_ J_ (g 0).kind) from rfl));rwa [ZfH,ZfH]at h2
  ·have h1:kY*prog.bytesOf 36<=reachBytes:=by
    have h2:=hz _ (by simp only[DataW.weights,underlying24];exact List.mem_cons_self);have h3:kY*prog.bytesOf 36<=(List.length ((List.range kY).map D)+List.length ((List.range (m-kY)).map λj=>D (kY+j)))*prog.bytesOf 36:=Nat.mul_le_mul_right _ ZM;exact ZT h3 h2
   have hb:1<=prog.bytesOf 36:=by rw[show prog.bytesOf 36=96 by kernel_rfl];omega
   have h4:kY*1<=kY*prog.bytesOf 36:=Nat.mul_le_mul_left _ hb;have h5:reachBytes<2 ^ 47:=reachBytes_lt;omega
end
end
def stL(s:St):List Value:=(ZcD s).toList
def Zfb(n:Nat)(ss:List RawSt):List St:=(ss.take 60).map (ZbZ n)
theorem Zuy:(prog.info? 36).map (λi=>(i.zero,i.size,i.bytes))=some (some (.agg #[I_ J_ 0,I_ J_ 0,I_ J_ 0,T_ ByteArray.empty,I_ J_ 0,T_ ByteArray.empty,I_ J_ 0,I_ J_ 0,.int .u32 0,I_ J_ 0]),10,96):=ZK
theorem ZuM{B:Nat}{ss:List RawSt}(h:Reads w B 10 a n (ss.flatMap Zci))(hn:n=ss.length){s:RawSt}(hq:ss[q]? = some s):
  ∃bk off,a=some ⟨bk,off,none⟩/\bk<B/\∀j u,(Zci s)[j]? = some u->w.cell? ⟨bk,off+q*10+j,none⟩=some u:=by
 have cI:q<ss.length:=(ZZ.1 hq).1;obtain⟨ad,rfl,hb,hc⟩:=h.2 ZO;obtain⟨bk,off,sp⟩:=ad;have hg:∀(ss:List RawSt) (q:Nat) (s:RawSt),ss[q]? = some s->∀j u,(Zci s)[j]? = some u->(ss.flatMap Zci)[q*10+j]? = some u:=by
  intro ss
  induction ss with
  |nil=>intro q s h;simp at h
  |cons x ss ih =>
   intro q s h j u hj;have hl:(Zci x).length=10:=rfl;rw[List.flatMap_cons]
   cases q with
   |zero =>
    simp at h;subst h;have:j<10:=(ZZ.1 hj).1;rw[List.getElem?_append_left (by rw[hl];omega),Nat.zero_mul,Nat.zero_add];exact hj
   |succ q =>
    rw[List.getElem?_append_right (by rw[hl];omega),hl,show(q+1)*10+j-10=q*10+j by omega];exact ih q s (by simpa using h) j u hj
 have h0:=hc _ _ (hg ss 0 ss[0] (ZX ZO) 0 _ rfl);have Wb:sp=none:=by
  have:=World.cell?_spot h0;simpa [Addr.add] using this
 subst Wb;refine⟨bk,off,rfl,hb,λj u hj=>?_⟩;have h1:=hc _ _ (hg ss q s hq j u hj);have e:Addr.add ⟨bk,off,none⟩ (q*10+j)=⟨bk,off+q*10+j,none⟩:=by
  unfold Addr.add;split
  ·rename_i h;have:q*10=0/\j=0:=ZO;rw[this.1,this.2];rfl
  ·rw[Nat.add_assoc]
 rw[←e];exact h1
theorem Zj6(w:World)(e:TypeId)(sz:Nat):(w.alloc (C_ #[] e)).ownsRow w.heap.size e sz (S_ (some ⟨w.heap.size,0,none⟩) 0 0) 0 [] :=
 ⟨ZM,.inr ⟨w.heap.size,0,#[],rfl,ZL _,heap_alloc_new w _,ZL _,by simp[maxLen],ZM,ZM⟩⟩
theorem ZtJ{N:Nat}{ss:List RawSt}(hr:Reads w w.heap.size 10 a n (ss.flatMap Zci))(hn:n=ss.length)(em:∀s∈ss,RawOk s)(h1:1<=N)(h5:N<=5)(nw:n<9223372036854775807):
  Calls prog 13 #[S_ a n cap,I_ J_ N] w λe w'=>∃v,e=R_ v/\w'.ownsRow w.heap.size 36 10 v (Zfb N ss).length ((Zfb N ss).flatMap stL)/\L_ w w':=by
 obtain⟨i0,hi,dd,cV,dc⟩:=info_parts Zuy;obtain⟨HR,HN,dU⟩:=ZH3 hr hn em;have HO:Hid ((w.alloc (C_ #[] 36)).ownsRow w.heap.size 36 10 (S_ (some ⟨w.heap.size,0,none⟩) 0 0) 0 (((ss.take 0).map (ZbZ N)).flatMap stL)):=ZH (Zj6 w 36 10);have HK:=ZH ((ZKr w).alloc (C_ #[] 36));have hm:min n 60<=n:=Nat.min_le_left _ _;clear hr hn em;go_enter func13,ntmps13;go_wp2_with fail;go_loopw [5,6] (λv i wr=>∃q:Nat,q<=n/\q<=60/\i=I_ J_ q/\Hid (wr.ownsRow w.heap.size 36 10 v q (((ss.take q).map (ZbZ N)).flatMap stL))/\Hid (K_ w wr)) (λ_ i _=>n-(intOf i).toNat)
 case atStart=>exact⟨0,ZO,ZO,rfl,HO,HK⟩
 case round =>
  skip
  obtain⟨q,hq,hq6,rfl,HO,HK⟩:=hrel;obtain⟨av,cv,rfl⟩:=Zl HO.out;by_cases du:q<n
  ·by_cases Ih:q<60
   ·obtain⟨s,he⟩:∃s,ss[q]? = some s:=⟨_,ZX (by rw[←HN.out];exact du)⟩;have xx:=ZH (dU.out s (ZY he));obtain⟨bk,off,rfl,cW,hc⟩:=ZuM (HR.out.below HK.out.below) HN.out he;have c0:=hc 0 _ rfl;have c1:=hc 1 _ rfl;have c2:=hc 2 _ rfl;have c3:=hc 3 _ rfl;have c4:=hc 4 _ rfl;have c5:=hc 5 _ rfl;have c6:=hc 6 _ rfl;have c7:=hc 7 _ rfl;have c8:=hc 8 _ rfl;have c9:=hc 9 _ rfl;simp only[Nat.add_zero]at c0;have iC:((ss.take (q+1)).map (ZbZ N)).flatMap stL=((ss.take q).map (ZbZ N)).flatMap stL++stL (ZbZ N s):=by
     rw[List.take_add_one,he];simp
    have fy:=ZH iC;clear he iC hc;go_wp2_with fail;refine(ZuT s N h1 h5 xx.out wr).mono ?_;rintro _ w1 ⟨rfl,cz⟩;have dI:=HK.out.step cz;have oC:=Ze HO.out cz;have iX:=ZH (oC.alloc (C_ (ZcD (ZbZ N s)) 36));have cX:=dI.alloc (C_ (ZcD (ZbZ N s)) 36);have iT:Hid (Reads (w1.alloc (C_ (ZcD (ZbZ N s)) 36)) _ 10 (some ⟨w1.heap.size,0,none⟩) 1 (stL (ZbZ N s))):=ZH (Reads.aA (ZBn w1 36 _) rfl);have eE:=cX.le;have cO:=ZH cX
    have gn:Hid (∀u∈stL (ZbZ N s),u.oneCell'=true):=ZH (λu hu=>by
     simp[stL]at hu
     rcases hu with rfl|rfl|rfl|rfl|rfl|rfl|rfl|rfl|rfl|rfl <;> rfl)
    clear cz dI oC cX c0 c1 c2 c3 c4 c5 c6 c7 c8 c9
    go_wp2_with (first
     |(at_builtin
       refine Zc _ rfl (.tmp 18) (.tmp 25) _ rfl w.heap.size 36 i0 _ 10 96 underlying24 hi dd cV dc rfl ZO (S_ av q cv) q (((ss.take q).map (ZbZ N)).flatMap stL) rfl iX.out _ (some ⟨w1.heap.size,0,none⟩) 1 1 (stL (ZbZ N s)) rfl iT.out gn.out ZF ZO eE ?_;intro v7 w7 cF db _;rw[←fy.out]at cF;have fx:Hid (K_ w w7):=ZH (⟨cO.out.below.grown db cO.out.le (λg hg=>(Zb iX.out hg).1),ZT cO.out.le db.size⟩);have iG:=ZH cF
       clear cF db ))
    go_roundw
    case rel=>exact⟨q+1,ZO,ZO,ZN,iG,fx⟩
    case measure=>simp[intOf];omega
   ·obtain rfl:q=60:=ZO;go_wp2
    go_ret;refine⟨_,rfl,?_,HK.out.below⟩;have e:(Zfb N ss).length=60:=by unfold Zfb;rw[List.length_map,ZV];have:=HN.out;omega
    rw[e];exact HO.out
  ·obtain rfl:q=n:=ZO;go_wp2
   go_ret;refine⟨_,rfl,?_,HK.out.below⟩;have e:(Zfb N ss).length=q:=by unfold Zfb;rw[List.length_map,ZV];have:=HN.out;omega
   have e2:ss.take q=ss.take 60:=by rw[ZU (by have:=HN.out;omega),ZU (by have:=HN.out;omega)]
   rw[e];rw[show Zfb N ss=(ss.take q).map (ZbZ N) from by rw[e2];rfl];exact HO.out
def Zu(t:Nat)(n:Nat):Prop:=t<=n/\n<t+1000
def flsOf(l:List (Nat×Frm)):List Fl:=l.map λq=>⟨q.1,Zn q.2⟩
structure WorldAt(own:Own)(t:Nat)(w:World)(p:Nat)(c:Cfg)(x:WS):Prop where
 mine:own p=t
 ex:∃(a:Option Addr) (k hp lp:Nat) (ps:List Nat),Blk w p 82 #[S_ a c.n k,ptrV hp,ptrV lp]/\w.ownsRow 0 83 1 (S_ a c.n k) c.n (ps.map ptrV)/\(∀g,(Value.slice a c.n k).ownBlock=some g->own g=t+1)/\ps.length=c.n /\
  (∀r q,ps[r]? = some q->NodeAt own (t+100+10*r) w q c r (x.nodes r).s)/\HubIs own (t+200) w hp c x.hub.s/\LinkAt own (t+300) w lp (flsOf x.link)
section
variable {own own':Own}{t p:Nat}{w w':World}{c:Cfg}{x:WS}{T:Nat->Prop}
theorem NodeT.world{t:Nat}(hr:r<5)(h:NodeT (t+100+10*r) n):Zu t n:=by
 obtain⟨h1,h2⟩:=h;exact⟨ZO,ZO⟩
theorem NodeT.apart{t r':Nat}(hr:r≠r')(h:NodeT (t+100+10*r) n):¬NodeT (t+100+10*r') n:=by
 obtain⟨h1,h2⟩:=h;rintro⟨h3,h4⟩;omega
theorem HubT.world{t:Nat}(h:HubT (t+200) n):Zu t n:=by
 obtain⟨h1,h2⟩:=h;exact⟨ZO,ZO⟩
theorem WorldAt.upd(h:WorldAt own t w p c x)(hu:Upd T own own' w w')(hT:∀n,Zu t n->¬T n)(h0:¬T 0)(hc:c.n<=5):WorldAt own' t w' p c x:=by
 obtain⟨h1,a,k,hp,lp,ps,h2,h3,h4,h5,h6,h7,h8⟩:=h;refine⟨by rw[hu.old p h2.lt];exact h1,a,k,hp,lp,ps,h2.upd hu (by rw[h1];exact hT t ⟨ZO,ZO⟩),Zi h3 (λg hg hl=>hu.same g hl (by rw[h4 g hg];exact hT _ ⟨ZO,ZO⟩)),λg hg=>by rw[hu.old g (Zb h3 hg).2];exact h4 g hg,h5,λr q hq=>?_,?_,h8.upd hu (hT _ ⟨ZO,ZO⟩) h0⟩
 ·have hr:r<5:=by have:=(ZZ.1 hq).1;omega
  exact(h6 r q hq).upd hu λn hn=>hT n (hn.world hr)
 ·exact HubAt.upd h7 hu (λn hn=>hT n hn.world) (by rw[h7.len];exact hc)
theorem ZlI(h:WorldAt own t w p c x)(r:Int):Calls prog 34 #[ptrV p,I_ J_ r] w (Zx (B_ (decide (0<=r/\r<c.n))) w):=by
 obtain⟨h1,a,k,hp,lp,ps,h2,h3,h4,h5,h6,h7,h8⟩:=h;obtain⟨c0,c1,c2⟩:=h2.three;have cI:=h2.lt;clear h1 h2 h3 h4 h5 h6 h7 h8;by_cases h0:0<=r;focus
  have hd:decide (0<=r/\r<(c.n:Int))=decide (r<(c.n:Int)):=by simp[h0]
 rotate_left
 focus
  have hd:decide (0<=r/\r<(c.n:Int))=false:=by simp[h0]
 rotate_left
 all_goals
  rw[hd];go_enter func34,ntmps34;go_wp2
  go_ret;exact⟨rfl,ZW _ _⟩
theorem WorldAt.node(h:WorldAt own t w p c x)(hr:r<c.n)(hc:c.n<=5):∃g k hp lp q,Blk w p 82 #[S_ (some ⟨g,0,none⟩) c.n k,ptrV hp,ptrV lp]/\g<w.heap.size/\w.cell? ⟨g,r,none⟩=some (ptrV q)/\NodeAt own (t+100+10*r) w q c r (x.nodes r).s /\
  ∀(own':Own) (w':World) (y:PN),Upd (NodeT (t+100+10*r)) own own' w w'->NodeAt own' (t+100+10*r) w' q c r y.s->WorldAt own' t w' p c ⟨Zbn x.nodes r y,x.hub,x.link⟩:=by
 obtain⟨h1,a,k,hp,lp,ps,h2,h3,h4,h5,h6,h7,h8⟩:=h;have hq:=ZX (l:=ps) (i:=r) ZO;obtain⟨g,rfl,ez,cB⟩:=Zbm h3 ZO;have iJ:=cB r (by rw[List.length_map];omega);rw[List.getElem?_map,hq]at iJ;refine⟨g,k,hp,lp,ps[r],h2,ez,iJ,h6 r _ hq,λown' w' y hu hn=>?_⟩;refine⟨by rw[hu.old p h2.lt];exact h1,_,k,hp,lp,ps,h2.upd hu (by rw[h1];rintro⟨h2,h3⟩;omega),Zi h3 (λg hg hl=>hu.same g hl (by rw[h4 g hg];rintro⟨h2,h3⟩;omega)),λg hg=>by rw[hu.old g (Zb h3 hg).2];exact h4 g hg,h5,λr' q' kr=>?_,?_,h8.upd hu (by rintro⟨h2,h3⟩;omega) (by rintro⟨h2,h3⟩;omega)⟩
 ·by_cases e:r'=r
  ·subst e;rw[hq]at kr;injection kr with kr;subst kr;simp only[ZbA];exact hn
  ·simp only[Za7 e];exact(h6 r' q' kr).upd hu λn hn=>hn.apart e
 ·exact HubAt.upd h7 hu (λn hn=>by obtain⟨h2,h3⟩:=hn;rintro⟨h4,h5⟩;omega) (by rw[h7.len];exact hc)
theorem WorldAt.hub(h:WorldAt own t w p c x):∃v hp lp,Blk w p 82 #[v,ptrV hp,ptrV lp]/\HubIs own (t+200) w hp c x.hub.s /\
  ∀(own':Own) (w':World) (y:PH),c.n<=5->Upd (HubT (t+200)) own own' w w'->HubIs own' (t+200) w' hp c y.s->WorldAt own' t w' p c ⟨x.nodes,y,x.link⟩:=by
 obtain⟨h1,a,k,hp,lp,ps,h2,h3,h4,h5,h6,h7,h8⟩:=h;refine⟨_,hp,lp,h2,h7,λown' w' y hc hu hn=>?_⟩;refine⟨by rw[hu.old p h2.lt];exact h1,a,k,hp,lp,ps,h2.upd hu (by rw[h1];rintro⟨h2,h3⟩;omega),Zi h3 (λg hg hl=>hu.same g hl (by rw[h4 g hg];rintro⟨h2,h3⟩;omega)),λg hg=>by rw[hu.old g (Zb h3 hg).2];exact h4 g hg,h5,λr' q' kr=>?_,hn,h8.upd hu (by rintro⟨h2,h3⟩;omega) (by rintro⟨h2,h3⟩;omega)⟩;have hr:r'<5:=by have:=(ZZ.1 kr).1;omega
 exact(h6 r' q' kr).upd hu λn hn=>by obtain⟨h2,h3⟩:=hn;rintro⟨h4,h5⟩;omega
theorem WorldAt.link(h:WorldAt own t w p c x):∃v hp lp,Blk w p 82 #[v,ptrV hp,ptrV lp]/\LinkAt own (t+300) w lp (flsOf x.link) /\
  ∀(own':Own) (w':World) (l:List (Nat×Frm)),c.n<=5->Upd (· = t+300) own own' w w'->LinkAt own' (t+300) w' lp (flsOf l)->WorldAt own' t w' p c ⟨x.nodes,x.hub,l⟩:=by
 obtain⟨h1,a,k,hp,lp,ps,h2,h3,h4,h5,h6,h7,h8⟩:=h;refine⟨_,hp,lp,h2,h8,λown' w' l hc hu hn=>?_⟩;refine⟨by rw[hu.old p h2.lt];exact h1,a,k,hp,lp,ps,h2.upd hu (by rw[h1];omega),Zi h3 (λg hg hl=>hu.same g hl (by rw[h4 g hg];omega)),λg hg=>by rw[hu.old g (Zb h3 hg).2];exact h4 g hg,h5,λr' q' kr=>?_,?_,hn⟩
 ·have hr:r'<5:=by have:=(ZZ.1 kr).1;omega
  exact(h6 r' q' kr).upd hu λn hn=>by obtain⟨h2,h3⟩:=hn;omega
 ·exact HubAt.upd h7 hu (λn hn=>by obtain⟨h2,h3⟩:=hn;omega) (by rw[h7.len];exact hc)
theorem ZaO(h:WorldAt own t w p c x)(hr:r<c.n):Calls prog 34 #[ptrV p,I_ J_ r] w (Zx (B_ true) w):=by
 have e:decide (0<=(r:Int)/\(r:Int)<c.n)=true:=ZP;have:=ZlI h r;rwa [e]at this
theorem Zbk(h:WorldAt own t w p c x){r:Int}(hr:r<0∨(c.n:Int)<=r):Calls prog 34 #[ptrV p,I_ J_ r] w (Zx (B_ false) w):=by
 have e:decide (0<=(r:Int)/\(r:Int)<c.n)=false:=ZP;have:=ZlI h r;rwa [e]at this
end
theorem Zhs:∀(f:Nat) (c:Clk) (w d:List Ev),(ZaS f c w d).1.length<=d.length+f
 | 0,c,w,d=>by simp[ZaS]
 |f+1,c,w,d=>by
  unfold ZaS
  cases Zbq c w with
  |none=>simp only;omega
  |some e =>
   have:=Zhs f (c.set e.r (c.get e.r+1)) (ZbY e.r e.n w) (d++[e]);simp only[ZI,List.length_singleton]at this ⊢;omega
theorem Zny(c:Clk)(l:List Ev):(drained c l).1.length<=l.length:=by
 have h1:=Zhs (Zak c l).length c (Zak c l) [];have h2:=ZeP c l [];unfold drained;simp only[List.length_nil,Nat.zero_add]at h1 h2;exact ZT h1 h2
theorem Zlx(ws:List Ev)(key:ByteArray)(l9:Nat):(ZeV ws key l9).length<=ws.length:=by
 have h1:=ZfK (ZaZ ((Z3 ws key l9).map (·.value)));rw[ZcC,List.length_map]at h1;have h2:(Z3 ws key l9).length<=ws.length:=by
  unfold Z3 Zct;exact ZT (List.length_filter_le _ _) (List.length_filter_le _ _)
 exact ZT h1 h2
theorem Zmr(l cs:List Ev):(ZaY l cs).length<=l.length:=List.length_filter_le _ _
theorem ZiO{α β : Type}{f : α -> List β}{K:Nat}:∀{l:List α},(∀x∈l,(f x).length<=K)->(l.flatMap f).length<=l.length*K
 | [],_=>ZM
 |x::l,h=>by
  have ih:=ZiO (l:=l) λy hy=>h y (List.mem_cons_of_mem _ hy)
  have h1:=h x ZM;simp only[List.flatMap_cons,ZI,List.length_cons,Nat.add_mul,Nat.one_mul];omega
section
variable {c:Cfg}{r b:Nat}{B:Bd}{x:PN}{kind label:Nat}{key value:ByteArray}
theorem NodeInv.book(h:NodeInv c r B b x)(hu:x.s.up=true):BookInv x.s.log.length x.s.book:=by
 rw[(h.up hu).book];have:=(BookInv.nil 0).fold (l:=x.s.log) (h.log hu).ok;rwa [Nat.zero_add]at this
theorem NodeInv.bytes(h:NodeInv c r B b x)(_hr:r<5)(_hb:b+2*tot B.made<=1000):x.s.d.bytes.length<=1000000000:=by
 have:=h.disk.rows.big;omega
theorem NodeInv.bi(h:NodeInv c r B b x)(hu:x.s.up=true)(hb:tot B.made<=100)(i:Nat):x.s.clk.get i<=100:=by
 by_cases hi:i<5
 ·rw[h.clk hu];exact ZT ((h.log hu).aD i) (Zdr hb hi)
 ·rw[Clk.aC _ ZO];omega
theorem NodeInv.cons(h:NodeInv c r B b x)(hu:x.s.up=true)(hb:tot B.made<=100):(listN x.s.book).length<=1000000/\∀y∈listN x.s.book,y.s0.length<=1000000/\y.s1.length<=1000000:=by
 have hk:=(h.book hu).more (ZT (h.log hu).len hb);have cT:∀k,((Zar x.s.book k).getD []).length<=100:=λk=>by
  cases hg:Zar x.s.book k with
  |none=>simp
  |some l=>exact(hk.get hg).1
 constructor
 ·have:=ZiO (l:=ZaZ (x.s.book.map (·.1))) (f:=λk=>ZcQ ((Zar x.s.book k).getD [])) (K:=100) (λk _=>ZT (ZgL _) (cT k));rw[ZcC,List.length_map]at this;have:=hk.keys;unfold listN;omega
 ·intro y hy;unfold listN at hy;obtain⟨k,dI,cX⟩:=List.mem_flatMap.1 hy;unfold ZcQ at cX;obtain⟨k',_,rfl⟩:=List.mem_map.1 cX;have h1:=Zlx (ZaY ((Zar x.s.book k).getD []) (ZaU ((Zar x.s.book k).getD []))) k' 0;have h2:=Zlx (ZaY ((Zar x.s.book k).getD []) (ZaU ((Zar x.s.book k).getD []))) k' 1;have h3:=Zmr ((Zar x.s.book k).getD []) (ZaU ((Zar x.s.book k).getD []));have h4:=cT k;unfold Za2;simp only;omega
theorem NodeInv.lists(h:NodeInv c r B b x)(hu:x.s.up=true)(hb:tot B.made<=100):x.s.book.length<=1000/\∀y∈x.s.book,y.1.size<=1000000/\y.2.length<=100/\∀e∈y.2,e.r<5:=by
 have hk:=(h.book hu).more (ZT (h.log hu).len hb);exact⟨ZT hk.keys ZO,hk.row⟩
theorem NodeInv.last(h:NodeInv c r B b x)(hu:x.s.up=true):x.s.clk.get r=lastOf x.s.sent x.s.wait:=by
 have hl:=h.log hu;rw[ZiT (l:=x.s.wait) (by rw[(h.up hu).wait,hl.wait,Nat.add_comm];exact(hl.row r).drop _),h.aK hu,h.clk hu];have:=hl.sent;omega
theorem NodeInv.bP(h:NodeInv c r B b x)(hu:x.s.up=true)(hr:r<5)(hb:tot B.made<=100)(hs:b<=700)(he:EditOk kind key label value):MayEdit c r x.s kind key label value:=by
 obtain⟨h1,h2⟩:=h.lists hu hb;obtain⟨h3,h4⟩:=h.cons hu hb;have hl:=h.log hu;have hlen:=hl.len;have em:=h.made hu hr hb he;have hw:=h.aK hu;have jZ:=hl.aD r;have pU:=Zde (B:=B.made) hr;exact⟨he,hr,h1,h2,h3,h4,em,λi=>by have:=h.bi hu hb i;omega,by rw[ZiG (c:=x.s.clk) (e:=madeEv r x.s kind key label value) hr rfl (Clk.bu _)];simp,h.last hu,ZO,ZO,hl.ok,h.bytes hr ZO,(h.book hu).more ZO⟩
theorem NodeInv.bQ(h:NodeInv c r B b x)(hu:x.s.up=true)(hr:r<5)(hb:tot B.made<=100)(hs:b<=700)(hf:NodeFrm c B r f):MayTake c r x.s f:=by
 have hl:=h.log hu;have hlen:=hl.len;have hw:=h.aK hu;have vC:=hl.sent;have jZ:=hl.aD r;have pU:=Zde (B:=B.made) hr;have hh:=(h.up hu).hlen;have kN:=hf.ok.len;have eR:∀e∈x.s.held++f.events,EvH c r B e:=λe he=>by
  rcases List.mem_append.1 he with he|he
  ·exact(h.up hu).held e he
  ·exact hf.evs e he
 have kE:=Zny x.s.clk (x.s.held++f.events);rw[ZI]at kE;refine⟨hf.ok,hr,hf.to,hf.kind,λe he=>⟨(hf.evs e he).ne,(hf.evs e he).good.rn⟩,by rw[h.clk hu];omega,λi=>by have:=h.bi hu hb i;omega,ZO,ZO,h.bytes hr ZO,λe he=>(eR e he).good.ok,ZO,λe he=>(eR e ((Zht _ _).2 e he)).good.ok,(h.book hu).more ZO,ZO⟩
end
abbrev Zp(up:Bool)(c:Clk)(sent:Nat)(vh vl:Value):Array Value:=#[B_ up,I_ J_ c.c0,I_ J_ c.c1,I_ J_ c.c2,I_ J_ c.c3,I_ J_ c.c4,I_ J_ sent,vh,vl]
abbrev ZfF(up:Bool)(c:Clk)(sent:Nat)(vh vl:Value):Value := .agg (Zp up c sent vh vl)
theorem ZdK(up:Bool)(c:Clk)(sent:Nat)(vh vl:Value):(prog.info? 47).map (λi=>i.size)=some (Zp up c sent vh vl).size:=ZK
theorem Zjq(up:Bool)(k:Clk)(sent:Nat)(a b:Option Addr)(n c m d:Nat):(Zp up k sent (S_ a n c) (S_ b m d)).all (·.oneCell')=true:=by
 rw[Array.all_eq_true_iff_forall_mem];intro v hv;simp at hv;rcases hv with rfl|rfl|rfl|rfl|rfl|rfl|rfl|rfl|rfl <;> rfl
def MarkRow(base:Nat)(w:World)(v:Value)(es:List Ev):Prop:=w.ownsRow base 161 2 v es.length (Zcc (Zbu es))
def SitePost(s:NodeSt)(w:World)(e:Ending)(w':World):Prop :=
 if s.up=true then ∃vh vl,e=R_ (ZfF true s.clk s.sent vh vl)/\MarkRow w.heap.size w' vh s.held/\MarkRow w.heap.size w' vl s.log/\L_ w w'
 else e=R_ (ZfF false ZCz 0 (S_ none 0 0) (S_ none 0 0))/\L_ w w'
theorem Zbx{B:Nat}{e:TypeId}{sz:Nat}{xs:List Value}(h:w.ownsRow B e sz v n xs):∃a m c,v=S_ a m c:=by
 rcases h.2 with ⟨rfl,_⟩|⟨g2,cap,cur,rfl,_⟩
 ·exact⟨_,_,_,rfl⟩
 ·exact⟨_,_,_,rfl⟩
section
variable {own:Own}{t p r:Nat}{w:World}{c:Cfg}{s:NodeSt}
theorem Zq1(h:NodeAt own t w p c r s)(hf:Fresh own w)(hh:s.held.length<=1000000)(hl:s.log.length<=1000000):
  Calls prog 43 #[ptrV p] w (SitePost s w):=by
 obtain⟨h1,dp,bp,ip,op,lv,h3,h4,h5,h6,h7,h8⟩:=h;obtain⟨al,cl,rfl,eW⟩:=EvSl.ae h5.row;clear eW;have cP:=(ZW w.heap.size w).alloc (ZL _) (C_ (Zp false ZCz 0 (S_ none 0 0) (S_ none 0 0)) 47);have HZ:=ZH (ZBn w 47 (Zp false ZCz 0 (S_ none 0 0) (S_ none 0 0)));have ed:Hid (K_ w (w.alloc (C_ (Zp false ZCz 0 (S_ none 0 0) (S_ none 0 0)) 47))):=ZH (⟨cP,cP.size⟩);have dt:Upd (λ_=>False) own own w (w.alloc (C_ (Zp false ZCz 0 (S_ none 0 0) (S_ none 0 0)) 47)):=ZUb cP hf;have hB:=h3.ob cP;obtain⟨c6,c7,c8,c9,dg,dh,eH,eI⟩:=hB.ai;have cI:=hB.lt;have eC:=N_
 obtain⟨HB,HI,yX,HF,Qg,gz⟩:=ZH6 hB (h7.upd dt (λh=>h)) (h5.upd dt (λh=>h)) dt.fresh hh hl;clear h3 h4 h5 h6 h7 h8 hf cP dt hB hh hl;obtain⟨up,d,log,sent,book,clk,held,wait⟩:=s;rcases up with _|_
 ·go_enter func43,ntmps43
  go_wp2_with (first
   |(refine ZS rfl 47 rfl (Zp false ZCz 0 (S_ none 0 0) (S_ none 0 0)) ZK ?_)
   |(refine Zat rfl 47 _ rfl (Zp false ZCz 0 (S_ none 0 0) (S_ none 0 0)) ?hf ?_
     case hf=>kernel_rfl)
   |(refine wpList_store_row rfl 47 (.tmp 2) (.tmp 8) rfl w.heap.size (Zp false ZCz 0 (S_ none 0 0) (S_ none 0 0)) rfl rfl 47 (Zp false ZCz 0 (S_ none 0 0) (S_ none 0 0)) HZ.out (ZdK _ _ _ _ _) rfl (Zjq _ _ _ _ _ _ _ _ _) ?_))
  refine bodyPost_ret (Z6 rfl rfl (run_loadVar_row _ _ _ _ _ _ _ (HZ.out.row _) underlying47 rfl (ZdK _ _ _ _ _))) rfl ?_;exact⟨rfl,(ed.out.row (ZL _) _).below⟩
 ·go_enter func43,ntmps43
  go_wp2_with (first
   |(refine ZS rfl 47 rfl (Zp false ZCz 0 (S_ none 0 0) (S_ none 0 0)) ZK ?_))
  generalize w.alloc (C_ (Zp false ZCz 0 (S_ none 0 0) (S_ none 0 0)) 47)=W at *;refine ZSi [(0,3),(1,0),(2,3),(3,0),(5,3),(6,0),(7,3),(8,0),(9,3),(10,0),(11,3),(12,0),(15,3),(16,0),(17,3),(18,0),(4,1),(13,1),(14,1),(19,1),(20,3),(21,2)] λcu=>?_
  repeat((first|refine ZSa ?_|refine ZSb ?_|(refine Zf rfl (by rfl) (λw' cL=>by(obtain⟨c6,c7,c8,c9,dg,dh,eH,eI⟩:=(HB.out.ob cL.below).ai);go_simp;with_reducible rfl) ?_));simp only[Act.put,Q_])
  refine ZSd λK hK=>?_
  go_simp;have dE:Upd (λ_=>False) own own W W.drew:=ZUb (ZW W.heap.size W).drew HF.out;refine(ZeS (HI.out.upd dE (λh=>h))).mono ?_;rintro _ w2 ⟨rfl,cD⟩;refine hK.out (λw'=>K_ W w') _ _ (λ_ h=>h) (cu.step cD) (λcA=>?_);clear hK K cu cD dE;repeat((first|refine ZSa ?_|refine ZSb ?_|refine ZSc ?_);simp only[Act.put,Q_])
  refine ZSd λK hK=>?_
  go_simp;have dE:Upd (λ_=>False) own own W w2:=ZUb cA.below HF.out;refine(Zpc (HI.out.upd dE (λh=>h)) Qg.out).mono ?_;rintro _ w3 ⟨v3,rfl,fd,cG⟩;obtain⟨a3,c3,rfl,ku⟩:=EvSl.ae fd;have i8:=ZH ku;have GN:=cA.step cG;refine hK.out (λw'=>K_ W w') _ _ (λ_ h=>h) GN (λpt=>?_);clear hK K cA cG dE ku fd GN;refine ZSd λK hK=>?_
  go_simp;refine(Zj0 i8.out Qg.out).mono ?_;rintro _ w4 ⟨v4,rfl,iO,cS⟩;have Im:MarkRow W.heap.size w4 v4 held:=Zj iO pt.le;have RR:=pt.step cS;obtain⟨b4,n4,d4,rfl⟩:=Zbx iO;have gS:=ZH Im;refine hK.out (λw'=>K_ W w') _ _ (λ_ h=>h) RR (λxI=>?_);clear hK K pt cS iO Im RR;refine ZSd λK hK=>?_
  go_simp;have dE:Upd (λ_=>False) own own W w4:=ZUb xI.below HF.out;refine(Zj0 (EvSl.ae (yX.out.upd dE (λh=>h)).row |> λ⟨_,_,e,h⟩=>by injection e with e1 e2 e3;subst e1 e3;exact h) gz.out).mono ?_;rintro _ w5 ⟨v5,rfl,eO,dH⟩;have Io:MarkRow W.heap.size w5 v5 log:=Zj eO xI.le;have Mw:Hid (MarkRow W.heap.size w5 (S_ b4 n4 d4) held):=ZH (Ze gS.out dH);have RS:=xI.step dH;obtain⟨b5,n5,d5,rfl⟩:=Zbx eO;have io:=ZH Io;refine hK.out (λw'=>K_ W w') _ _ (λ_ h=>h) RS (λF2=>?_);clear hK K xI dH eO Io RS dE;repeat((first|refine ZSa ?_|refine ZSb ?_|refine ZSc ?_);simp only[Act.put,Q_])
  have Dh:=HZ.out.ob F2.below;obtain⟨z0,z1,z2,z3,z4,z5,z6,z7,z8⟩:=Dh.am;have zf:=Dh.frozen;have JB:=zf 0;have JC:=zf 1;have JD:=zf 2;have JE:=zf 3;have JF:=zf 4;have WI:=zf 5;have WJ:=zf 6;have WK:=zf 7;have WL:=zf 8;have m9:=Dh.lt;have BC:=ZH Dh;clear zf Dh;refine ZSe λK hK=>?_
  go_simp;refine hK.out _ _ ?_;clear hK K z0 z1 z2 z3 z4 z5 z6 z7 z8 JB JC JD JE JF WI WJ WK WL m9;refine ZSf ?_;have tj:=Zal BC.out (vs:=Zp true clk sent (S_ b4 n4 d4) (S_ b5 n5 d5)) rfl;obtain⟨W6,wj⟩:∃W6,W6=setAll w5 w.heap.size 0 (Zp true clk sent (S_ b4 n4 d4) (S_ b5 n5 d5)).toList:=⟨_,rfl⟩;change Exit.then _ _ _ _ (setAll w5 w.heap.size 0 (Zp true clk sent (S_ b4 n4 d4) (S_ b5 n5 d5)).toList);rw[←wj]at tj ⊢;obtain⟨Bo,Bs⟩:=ZH2 wj tj;clear wj tj;go_wp2_with fail;refine bodyPost_ret (Z6 rfl rfl (run_loadVar_row _ _ _ _ _ _ _ Bs.out underlying47 rfl (ZdK _ _ _ _ _))) rfl ?_;have dS:w.heap.size<W.heap.size:=HZ.out.lt;have hm:∀v es,MarkRow W.heap.size w5 v es->MarkRow w.heap.size W6 v es:=λv es h=>Zj (Zi h (λg hg _=>by rw[Bo.out];exact Zai (by have:=Zb h hg;omega) _ _ _)) ed.out.le
  refine⟨_,_,rfl,hm _ _ Mw.out,hm _ _ io.out,?_⟩;rw[Bo.out];exact(Zaf (ed.out.trans F2 ed.out.le) (ZL _) 0 _).below
end
section
variable {own:Own}{t p r:Nat}{w:World}{c:Cfg}{s:NodeSt}
theorem ZkD(h:NodeAt own t w p c r s)(hu:s.up=false)(a:Option Addr)(n cap:Nat):Calls prog 51 #[ptrV p,S_ a n cap] w (Zx (I_ J_ 18) w):=by
 obtain⟨h1,dp,bp,ip,op,lv,h3,h4,h5,h6,h7,h8⟩:=h;obtain⟨up,d,log,sent,book,clk,held,wait⟩:=s;simp only at hu h3;subst hu;obtain⟨c6,c7,c8,c9,dg,dh,eH,eI⟩:=h3.ai;have cI:=h3.lt;have eC:=N_
 clear h3 h4 h5 h6 h7 h8;go_enter func51,ntmps51;go_wp2
 go_ret;exact⟨rfl,ZW _ _⟩
theorem Zky(h:NodeAt own t w p c r s)(hu:s.up=false):Calls prog 41 #[ptrV p] w (Zx (.tuple #[S_ none 0 0,I_ J_ 18]) w):=by
 obtain⟨h1,dp,bp,ip,op,lv,h3,h4,h5,h6,h7,h8⟩:=h;obtain⟨up,d,log,sent,book,clk,held,wait⟩:=s;simp only at hu h3;subst hu;obtain⟨c6,c7,c8,c9,dg,dh,eH,eI⟩:=h3.ai;have cI:=h3.lt;have eC:=N_
 clear h3 h4 h5 h6 h7 h8;go_enter func41,ntmps41;go_wp2_with fail;go_ret2
 exact⟨rfl,ZW _ _⟩
theorem Zkz(h:NodeAt own t w p c r s)(hu:s.up=false):Calls prog 37 #[ptrV p] w (Zx (.tuple #[S_ none 0 0,I_ J_ 18]) w):=by
 obtain⟨h1,dp,bp,ip,op,lv,h3,h4,h5,h6,h7,h8⟩:=h;obtain⟨up,d,log,sent,book,clk,held,wait⟩:=s;simp only at hu h3;subst hu;obtain⟨c6,c7,c8,c9,dg,dh,eH,eI⟩:=h3.ai;have cI:=h3.lt;have eC:=N_
 clear h3 h4 h5 h6 h7 h8;go_enter func37,ntmps37;go_wp2_with fail;go_ret2
 exact⟨rfl,ZW _ _⟩
theorem Zgy(h:NodeAt own t w p c r s)(hu:s.up=false)(kind:Int):Calls prog 76 #[ptrV p,I_ J_ kind] w (Zx (.tuple #[S_ none 0 0,I_ J_ 18]) w):=by
 obtain⟨h1,dp,bp,ip,op,lv,h3,h4,h5,h6,h7,h8⟩:=h;obtain⟨up,d,log,sent,book,clk,held,wait⟩:=s;simp only at hu h3;subst hu;obtain⟨c6,c7,c8,c9,dg,dh,eH,eI⟩:=h3.ai;have cI:=h3.lt;have eC:=N_
 clear h3 h4 h5 h6 h7 h8;go_enter func76,ntmps76;go_wp2_with fail;go_ret2
 exact⟨rfl,ZW _ _⟩
theorem Zj2(h:NodeAt own t w p c r s)(hu:s.up=false):Calls prog 40 #[ptrV p] w (Zx (I_ J_ 18) w):=by
 obtain⟨h1,dp,bp,ip,op,lv,h3,h4,h5,h6,h7,h8⟩:=h;obtain⟨up,d,log,sent,book,clk,held,wait⟩:=s;simp only at hu h3;subst hu;obtain⟨c6,c7,c8,c9,dg,dh,eH,eI⟩:=h3.ai;have cI:=h3.lt;have eC:=N_
 clear h3 h4 h5 h6 h7 h8;go_enter func40,ntmps40;go_wp2
 go_ret;exact⟨rfl,ZW _ _⟩
theorem ZjZ(h:NodeAt own t w p c r s)(hu:s.up=false):Calls prog 38 #[ptrV p] w (Zx (.tuple #[S_ none 0 0,I_ J_ 18]) w):=by
 have HT:=ZH (Zgy h hu 3);clear h;go_enter func38,ntmps38;go_wp2_with fail;refine HT.out.mono ?_;rintro _ w2 ⟨rfl,cD⟩;go_wp2_with fail;go_ret2
 exact⟨rfl,cD⟩
theorem ZlW(h:NodeAt own t w p c r s)(hu:s.up=false):Calls prog 39 #[ptrV p] w (Zx (.tuple #[S_ none 0 0,I_ J_ 18]) w):=by
 have HT:=ZH (Zgy h hu 5);clear h;go_enter func39,ntmps39;go_wp2_with fail;refine HT.out.mono ?_;rintro _ w2 ⟨rfl,cD⟩;go_wp2_with fail;go_ret2
 exact⟨rfl,cD⟩
theorem ZkA(h:NodeAt own t w p c r s)(hu:s.up=false):Calls prog 43 #[ptrV p] w (Zx (ZfF false ZCz 0 (S_ none 0 0) (S_ none 0 0)) w):=by
 obtain⟨h1,dp,bp,ip,op,lv,h3,h4,h5,h6,h7,h8⟩:=h;have cP:=(ZW w.heap.size w).alloc (ZL _) (C_ (Zp false ZCz 0 (S_ none 0 0) (S_ none 0 0)) 47);have HZ:=ZH (ZBn w 47 (Zp false ZCz 0 (S_ none 0 0) (S_ none 0 0)));have ed:Hid (K_ w (w.alloc (C_ (Zp false ZCz 0 (S_ none 0 0) (S_ none 0 0)) 47))):=ZH (⟨cP,cP.size⟩);have hB:=h3.ob cP;obtain⟨up,d,log,sent,book,clk,held,wait⟩:=s;simp only at hu hB;subst hu;obtain⟨c6,c7,c8,c9,dg,dh,eH,eI⟩:=hB.ai;have cI:=hB.lt;have eC:=N_
 clear h3 h4 h5 h6 h7 h8 cP hB;go_enter func43,ntmps43
 go_wp2_with (first
  |(refine ZS rfl 47 rfl (Zp false ZCz 0 (S_ none 0 0) (S_ none 0 0)) ZK ?_)
  |(refine Zat rfl 47 _ rfl (Zp false ZCz 0 (S_ none 0 0) (S_ none 0 0)) ?hf ?_
    case hf=>kernel_rfl)
  |(refine wpList_store_row rfl 47 (.tmp 2) (.tmp 8) rfl w.heap.size (Zp false ZCz 0 (S_ none 0 0) (S_ none 0 0)) rfl rfl 47 (Zp false ZCz 0 (S_ none 0 0) (S_ none 0 0)) HZ.out (ZdK _ _ _ _ _) rfl (Zjq _ _ _ _ _ _ _ _ _) ?_))
 refine bodyPost_ret (Z6 rfl rfl (run_loadVar_row _ _ _ _ _ _ _ (HZ.out.row _) underlying47 rfl (ZdK _ _ _ _ _))) rfl ?_;exact⟨rfl,(ed.out.row (ZL _) _).below⟩
theorem Zkx(h:NodeAt own t w p c r s)(hu:s.up=false)(kind label:Nat)(key value:ByteArray):
  Calls prog 35 #[ptrV p,Zfz kind key label value] w (Zx (.tuple #[.agg (evArr ev0),I_ J_ 18]) w):=by
 obtain⟨h1,dp,bp,ip,op,lv,h3,h4,h5,h6,h7,h8⟩:=h;have cP:=ZbT w (C_ #[I_ J_ kind,T_ key,I_ J_ label,T_ value] 33) (C_ Zk 89);have xG:=(ZBn w 33 #[I_ J_ kind,T_ key,I_ J_ label,T_ value]).alloc (C_ Zk 89);have HZ:=ZH (Zag w (C_ #[I_ J_ kind,T_ key,I_ J_ label,T_ value] 33) 89 Zk);have hB:=h3.ob cP;obtain⟨up,d,log,sent,book,clk,held,wait⟩:=s;simp only at hu hB;subst hu;obtain⟨c6,c7,c8,c9,dg,dh,eH,eI⟩:=hB.ai;have cI:=hB.lt;have eC:=N_
 have eh:=ZH cP;clear h3 h4 h5 h6 h7 h8 cP xG hB;go_enter func35,ntmps35;go_wp2_with fail;refine bodyPost_ret (Zq rfl rfl rfl (run_loadVar_row _ _ _ _ _ _ _ HZ.out underlying89 rfl ZK)) rfl ?_;exact⟨rfl,eh.out⟩
end
section
variable {own:Own}{t p:Nat}{w:World}{c:Cfg}{up:Bool}{d:Dk}{sh:List Sh}{told:List Clk}
theorem ZlS(h:HubAt own t w p c false d sh told)(a:Option Addr)(n cap:Nat):Calls prog 50 #[P_ (some ⟨p,0,none⟩),S_ a n cap] w (Zx (.tuple #[I_ J_ (-1),S_ none 0 0,I_ J_ 18]) w):=by
 obtain⟨dp,pp,h3,yc⟩:=h.ex;obtain⟨c0,c1,c2,c3,c4,c5,c6,c7,c8⟩:=h3.am;have eC:=N_
 clear h3 yc h;go_enter func50,ntmps50;go_wp2_with fail;go_ret3
 exact⟨rfl,ZW _ _⟩
theorem ZmG(h:HubAt own t w p c true d sh told):Calls prog 47 #[P_ (some ⟨p,0,none⟩)] w (Zx (I_ J_ 19) w):=by
 obtain⟨dp,pp,h3,yc⟩:=h.ex;obtain⟨c0,c1,c2,c3,c4,c5,c6,c7,c8⟩:=h3.am;clear h3 yc h;go_enter func47,ntmps47;go_wp2
 go_ret;exact⟨rfl,ZW _ _⟩
theorem ZlR(h:HubAt own t w p c false d sh told):Calls prog 52 #[P_ (some ⟨p,0,none⟩)] w (Zx (ZbL false sh told) w):=by
 obtain⟨h1,h2,dp,pp,h3,h4,h5⟩:=h;obtain⟨HZ,ed⟩:=ZH2 (ZBn w 56 (Zt false ZCz ZCz (List.replicate 5 ZCz))) ((ZKr w).alloc (C_ (Zt false ZCz ZCz (List.replicate 5 ZCz)) 56));have qH:=h3.alloc (C_ (Zt false ZCz ZCz (List.replicate 5 ZCz)) 56);obtain⟨c0,c1,c2,c3,c4,c5,c6,c7,c8⟩:=qH.am;have cI:=h3.lt;have Cx:=qH.lt;clear qH h3 h4 h5;obtain⟨W0,iq⟩:∃W0,W0=w.alloc (C_ (Zt false ZCz ZCz (List.replicate 5 ZCz)) 56):=⟨_,rfl⟩;rw[←iq]at HZ ed c0 c1 c2 c3 c4 c5 c6 c7 c8 Cx;have nk:=ZH iq;clear iq;have eC:=N_
 go_enter func52,ntmps52
 go_wp2_with (first
  |(refine ZS rfl 56 rfl (Zt false ZCz ZCz (List.replicate 5 ZCz)) ZK ?_
    rw[←nk.out])
  |(refine Zat rfl 56 _ rfl (Zt false ZCz ZCz (List.replicate 5 ZCz)) ?hf ?_
    case hf=>kernel_rfl)
  |(refine wpList_store_row rfl 56 (.tmp 2) (.tmp 9) rfl w.heap.size (Zt false ZCz ZCz (List.replicate 5 ZCz)) rfl rfl 56 (Zt false ZCz ZCz (List.replicate 5 ZCz)) HZ.out (ZbU _ _ _ (acks:=List.replicate 5 ZCz) rfl) (by simp only[Zcs]) (Zdy _ _ _ _) ?_))
 refine bodyPost_ret (Z6 rfl rfl (run_loadVar_row _ _ _ _ _ _ _ (HZ.out.row _) underlying56 rfl (ZbU _ _ _ (acks:=List.replicate 5 ZCz) rfl))) rfl ?_;exact⟨by simp[ZbL,Zbw],(ed.out.row (ZL _) _).below⟩
end
section
variable {own:Own}{t p:Nat}{w:World}{c:Cfg}{up:Bool}{d:Dk}{sh:List Sh}{told:List Clk}
theorem Zk5(h:HubAt own t w p c up d sh told)(hf:Fresh own w):
  Calls prog 46 #[P_ (some ⟨p,0,none⟩)] w λr w'=>r=R_ (.tuple #[])/\HubAt own t w' p c false d.aH sh told/\Upd (HubT t) own own w w':=by
 obtain⟨h1,h2,dp,pp,h3,h4,h5⟩:=h;obtain⟨c0,c1,c2,c3,c4,c5,c6,c7,c8⟩:=h3.am;have f0:=h3.frozen 0;have cI:=h3.lt;have cN:Upd (· = t) own own w (w.setCell ⟨p,0,none⟩ (B_ false)):=(Upd.refl (· = t) own w hf).setCell (p:=⟨p,0,none⟩) (λ_=>h1) _;have cz:Blk (w.setCell ⟨p,0,none⟩ (B_ false)) p 124 (hubStArr false (P_ (some ⟨dp,0,none⟩)) c (P_ (some ⟨pp,0,none⟩))):=h3.aj 0 _;have nz:=h4.upd cN ZO;have lZ:=ZH (h5.upd cN (λi _=>ZO));have e1:=cz.cell 1;obtain⟨fl,dA,dj,rW⟩:=ZH4 (Zf7 (w:=w.setCell ⟨p,0,none⟩ (B_ false)) (p:=p) (d:=dp) e1) cN cz nz;clear cN cz nz h3 h4 h5 e1;go_enter func46,ntmps46;go_wp2_with fail;refine fl.out.mono ?_;rintro _ w2 ⟨rfl,cD⟩;have cM:=dA.out.kept cD;have fI:Upd (λ_=>False) own own (w.setCell ⟨p,0,none⟩ (B_ false)) w2:=ZUb cD dA.out.fresh;obtain⟨HC,df,tf,dC⟩:=ZH4 (ZgP (rW.out.upd fI (λh=>h)) cM.fresh) (dj.out.ob cD) (lZ.out.upd fI (λ_ _ h=>h)) cM;clear cM fI cD;go_wp2_with fail;refine HC.out.mono ?_;rintro _ w3 ⟨rfl,iM,de⟩;go_wp2_with fail;go_end0
 exact⟨rfl,⟨h1,h2,dp,pp,df.out.upd de ZO,iM,tf.out.upd de (λi _=>ZO)⟩,(dC.out.mono (λn h=>⟨ZO,ZO⟩)).trans (de.mono (λn h=>⟨ZO,ZO⟩))⟩
theorem ZtV(h:HubAt own t w p c up d sh told)(hf:Fresh own w)(keep:Int):
  Calls prog 275 #[P_ (some ⟨p,0,none⟩),I_ J_ keep] w λr w'=>r=R_ (.tuple #[])/\HubAt own t w' p c up (d.aV keep) sh told/\Upd (HubT t) own own w w':=by
 obtain⟨h1,h2,dp,pp,h3,h4,h5⟩:=h;have cI:=h3.lt;have e1:=h3.cell 1;obtain⟨fl,dj,rW,lZ,HF⟩:=ZH5 (Zf7 (w:=w) (p:=p) (d:=dp) e1) h3 h4 h5 hf;clear h3 h4 h5 e1 hf;go_enter func275,ntmps275;go_wp2_with fail;refine fl.out.mono ?_;rintro _ w2 ⟨rfl,cD⟩;have fI:Upd (λ_=>False) own own w w2:=ZUb cD HF.out;obtain⟨HC,df,tf,dC⟩:=ZH4 (Zmv keep (rW.out.upd fI (λh=>h)) fI.fresh) (dj.out.ob cD) (lZ.out.upd fI (λ_ _ h=>h)) fI;clear fI cD;go_wp2_with fail;refine HC.out.mono ?_;rintro _ w3 ⟨rfl,iM,de⟩;go_wp2_with fail;go_end0
 exact⟨rfl,⟨h1,h2,dp,pp,df.out.upd de ZO,iM,tf.out.upd de (λi _=>ZO)⟩,(dC.out.mono (λn h=>h.elim)).trans (de.mono (λn h=>⟨ZO,ZO⟩))⟩
end
section
variable {own:Own}{t p r b:Nat}{w:World}{c:Cfg}{B:Bd}{x:PN}
theorem ZeW(s:Bool):s=true∨s=false:=by cases s <;> simp
theorem Zj3(ht:0<t)(h:NodeAt own t w p c r x.s)(hf:Fresh own w)(hi:NodeInv c r B b x)(hr:r<5)(hb:tot B.made<=100)(hs:b<=700)(hg:NodeFrm c B r f)(gF:Bytes w a n cap (Zn f)):
  Calls prog 51 #[ptrV p,S_ a n cap] w λe w'=>e=R_ (I_ J_ (Zaa c r x f).2)/\∃own',NodeAt own' t w' p c r (Zaa c r x f).1.s/\Upd (NodeT t) own own' w w':=by
 have e:=ZnP c r x f;have e1:(Zaa c r x f).1.s=(ZcA c r x.s f).1:=congrArg Prod.fst e;have e2:(Zaa c r x f).2=(ZcA c r x.s f).2:=congrArg Prod.snd e;rw[e1,e2];rcases ZeW x.s.up with hu|hu
 ·exact Zq2 ht h hf (hi.bQ hu hr hb hs hg) gF
 ·refine(ZkD h hu a n cap).mono ?_;rintro _ w' ⟨rfl,jX⟩;have hN:ZcA c r x.s f=(x.s,18):=by unfold ZcA;rw[ZPn (by simp[hu])]
  rw[hN];have kG:Upd (NodeT t) own own w w':=ZUb jX hf;exact⟨rfl,own,h.upd (ZUb (T:=λ_=>False) jX hf) (λ_ _ h=>h),kG⟩
theorem ZdR(h:NodeAt own t w p c r x.s)(hf:Fresh own w)(hi:NodeInv c r B b x)(hr:r<5)(hc:c.Ok)(hb:tot B.made<=100):
  Calls prog 37 #[ptrV p] w (ZbJ (Za8 c r x.s 1) w)/\Calls prog 38 #[ptrV p] w (ZbJ (Za8 c r x.s 2) w)/\Calls prog 39 #[ptrV p] w (ZbJ (Za8 c r x.s 3) w):=by
 rcases ZeW x.s.up with hu|hu
 ·have eD:∀i,x.s.clk.get i<=1048576:=λi=>by have:=hi.bi hu hb i;omega
  have hl:=hi.log hu;have vO:=hi.aK hu;have jZ:=hl.aD r;have pU:=Zde (B:=B.made) hr;have hw:∀e∈x.s.wait,e.Ok/\e.r=r:=λe he=>by
   rw[(hi.up hu).wait,hl.wait]at he;obtain⟨h1,h2⟩:=ZeB.1 (List.mem_of_mem_drop he);exact⟨hl.ok e h1,h2⟩
  exact⟨Zq0 h hf hr ZO hc.w4 hc.w1 hw,Zpr h hf hr eD,Zsr h hf hr eD⟩
 ·have eC:¬x.s.up=true:=by simp[hu]
  have e1:Za8 c r x.s 1=(none,18):=by unfold Za8 Zfo;rw[ZPp rfl,ZPn eC]
  have e2:Za8 c r x.s 2=(none,18):=by unfold Za8 ZcV;rw[ZPn ZO,ZPp rfl,ZPn eC]
  have e3:Za8 c r x.s 3=(none,18):=by unfold Za8 ZcV;rw[ZPn ZO,ZPn ZO,ZPn eC]
  rw[e1,e2,e3];exact⟨(Zkz h hu).mono λe w' h=>h,(ZjZ h hu).mono λe w' h=>h,(ZlW h hu).mono λe w' h=>h⟩
theorem ZnS(h:NodeAt own t w p c r x.s)(hf:Fresh own w)(hi:NodeInv c r B b x)(hr:r<5)(hb:tot B.made<=100)(hs:b<=700):
  Calls prog 40 #[ptrV p] w λe w'=>e=R_ (I_ J_ (ZcU r x).2)/\∃own',NodeAt own' t w' p c r (ZcU r x).1.s/\Upd (NodeT t) own own' w w':=by
 rcases ZeW x.s.up with hu|hu
 ·have hl:=hi.log hu;have hlen:=hl.len;have vC:=hl.sent;have jZ:=hl.aD r;have pU:=Zde (B:=B.made) hr;exact Zpt h hf hr ZO hl.ok ZO (hi.bytes hr ZO)
 ·refine(Zj2 h hu).mono ?_;rintro _ w' ⟨rfl,jX⟩;have hN:ZfY r x.s=(x.s,18):=by unfold ZfY;rw[ZPn (by simp[hu])]
  unfold ZcU;simp only[hN];exact⟨rfl,own,h.upd (ZUb (T:=λ_=>False) jX hf) (λ_ _ h=>h),ZUb jX hf⟩
theorem ZiW(ht:0<t)(h:NodeAt own t w p c r x.s)(hf:Fresh own w)(hi:NodeInv c r B b x)(hr:r<5)(hb:tot B.made<=100)(_hs:b<=700):
  Calls prog 45 #[ptrV p] w λe w'=>e=R_ (I_ J_ (ZbI r x).2)/\∃own',NodeAt own' t w' p c r (ZbI r x).1.s/\Upd (NodeT t) own own' w w':=by
 rcases ZeW x.s.up with hu|hu
 ·refine(ZlX h hu).mono ?_;rintro _ w' ⟨rfl,jX⟩;unfold ZbI;rw[ZPp hu];exact⟨rfl,own,h.upd (ZUb (T:=λ_=>False) jX hf) (λ_ _ h=>h),ZUb jX hf⟩
 ·obtain⟨h1,dp,bp,ip,op,lv,h3,h4,h5,h6,h7,h8⟩:=h;rw[hu]at h3;unfold ZbI;rw[ZPn (by simp[hu])];exact Zj1 ht h1 h3 hf (.inl ⟨dp,rfl,h4⟩) hi.disk.rows (λq=>by have:=(hi.disk.inv q).len;omega) (hi.disk.last.bZ hr ZO)
theorem Zps(h:NodeAt own t w p c r x.s)(hi:NodeInv c r B b x)(hb:tot B.made<=100):Calls prog 41 #[ptrV p] w (ZdE x.s w):=by
 rcases ZeW x.s.up with hu|hu
 ·obtain⟨h1,h2⟩:=hi.lists hu hb;exact ZqZ h h1 h2
 ·refine(Zky h hu).mono ?_;intro e w' h';unfold ZdE;rw[ZPn (by simp[hu])];exact h'
theorem Zg8(h:NodeAt own t w p c r x.s)(hf:Fresh own w)(hi:NodeInv c r B b x)(hb:tot B.made<=100):Calls prog 43 #[ptrV p] w (SitePost x.s w):=by
 rcases ZeW x.s.up with hu|hu
 ·have:=(hi.up hu).hlen;have:=(hi.log hu).len;exact Zq1 h hf ZO ZO
 ·refine(ZkA h hu).mono ?_;intro e w' h';unfold SitePost;rw[ZPn (by simp[hu])];exact h'
end
section
variable {own:Own}{t p:Nat}{w:World}{c:Cfg}{B:Bd}{x:PH}
theorem Zk8(ht:0<t)(h:HubIs own t w p c x.s)(hf:Fresh own w)(hi:HubInv c B x)(hc:c.Ok)(hb:tot B.made<=100)(hg:HubFrm c B f)(gF:Bytes w a n cap (Zn f)):
  Calls prog 50 #[P_ (some ⟨p,0,none⟩),S_ a n cap] w (HTakePost own t p c w (Zaq c x.s f)):=by
 rcases ZeW x.s.up with hu|hu
 ·obtain⟨g1,g2,g3⟩:=hi.up hu;have eU:=hi.inv;rw[g3]at eU
  exact Zsb ht h hf hc (eU.ok hc hb) (λs hs e he=>by
   obtain⟨i,hi,rfl⟩:=List.getElem_of_mem hs
   exact((eU.sh i _ (ZX hi)).all e he).1.ok) f hg.ok hg.r hg.kind (hi.bI hu hg) gF (by have:=hi.rows.big;omega)
 ·have h':=h;unfold HubIs at h';rw[hu]at h';refine(ZlS h' a n cap).mono ?_;rintro _ w' ⟨rfl,jX⟩;have hN:Zaq c x.s f=(x.s,none,18):=by unfold Zaq;rw[ZPp hu]
  rw[hN];have hl:=h.len;have h5:=hc.n5;exact⟨own,ZUb jX hf,HubAt.upd h (ZUb (T:=λ_=>False) jX hf) (λ_ _ h=>h) (show x.s.sh.length<=5 by omega),rfl⟩
theorem ZjQ(ht:0<t)(h:HubIs own t w p c x.s)(hf:Fresh own w)(hi:HubInv c B x)(hc:c.Ok):
  Calls prog 47 #[P_ (some ⟨p,0,none⟩)] w λe w'=>e=R_ (I_ J_ (ZbX c x).2)/\∃own',HubIs own' t w' p c (ZbX c x).1.s/\Upd (HubT t) own own' w w':=by
 rcases ZeW x.s.up with hu|hu
 ·have h':=h;unfold HubIs at h';rw[hu]at h';refine(ZmG h').mono ?_;rintro _ w' ⟨rfl,jX⟩;unfold ZbX;rw[ZPp hu];have hl:=h.len;have h5:=hc.n5;exact⟨rfl,own,HubAt.upd h (ZUb (T:=λ_=>False) jX hf) (λ_ _ h=>h) (show x.s.sh.length<=5 by omega),ZUb jX hf⟩
 ·obtain⟨h1,h2,dp,pp,h3,h4,h5⟩:=h;rw[hu]at h3;unfold ZbX;rw[ZPn (by simp[hu])];exact Zk7 ht h1 h3 hf (.inl ⟨dp,rfl,h4⟩) hc hi.rows hi.rep
theorem Zk6(h:HubIs own t w p c x.s)(hf:Fresh own w)(hi:HubInv c B x)(hc:c.Ok)(hb:tot B.made<=100):
  Calls prog 52 #[P_ (some ⟨p,0,none⟩)] w (Zx (ZbL x.s.up x.s.sh x.s.told) w):=by
 rcases ZeW x.s.up with hu|hu
 ·obtain⟨g1,g2,g3⟩:=hi.up hu;have em:=hi.inv.ok hc hb;rw[g3]at em;have hl:=h.len;have h5:=hc.n5;exact hub_site h hf ZO (λs hs=>by have:=em.kept s hs;have:=hc.w4;omega)
 ·have h':=h;unfold HubIs at h';rw[hu]at h' ⊢;refine(ZlR h').mono ?_;rintro _ w' ⟨rfl,jX⟩;exact⟨by simp[ZbL],jX⟩
end
def Zbz(c:Cfg)(x:WS)(o:PH×Option (Nat×Frm)×Nat):WS :=
 match o.2.1 with
 |some p=>⟨Zbn x.nodes p.1 (Zaa c p.1 (x.nodes p.1) p.2).1,o.1,x.link⟩
 |none=>⟨x.nodes,o.1,x.link⟩
def Z5(c:Cfg)(r:Nat)(x:WS)(kind:Nat):WS :=
 match (Za8 c r (x.nodes r).s kind).1 with
 |some g=>Zbz c x (Zh c x.hub g)
 |none=>x
def ZdY(c:Cfg)(x:WS)(r:Nat):WS:=Z5 c r (Z5 c r (Z5 c r x 1) 2) 3
def ZcJ(c:Cfg)(x:WS):WS:=(List.range c.n).foldl (ZdY c) x
def Za4(c:Cfg)(x:WS):WS:=⟨λr=>if r<c.n then(ZbI r (ZcF (x.nodes r))).1 else x.nodes r,(ZbX c (ZcR x.hub)).1,x.link⟩
structure StandN where
 up:Bool
 base:Clk
 len:Clk
 acks:List Clk
 nodes:List (Clk×Nat×Nat×Nat)
 deriving DecidableEq
def ZfX(x:PN):Clk×Nat×Nat×Nat:=if x.s.up=true then(x.s.clk,x.s.sent,x.s.held.length,x.s.log.length) else(ZCz,0,0,0)
def ZaC(c:Cfg)(x:WS):StandN :=
 ⟨x.hub.s.up,if x.hub.s.up=true then Zdw x.hub.s.sh else ZCz,if x.hub.s.up=true then lenOf x.hub.s.sh else ZCz,if x.hub.s.up=true then Zbp x.hub.s.told else List.replicate 5 ZCz,(List.range 5).map λr=>if r<c.n then ZfX (x.nodes r) else(ZCz,0,0,0)⟩
def goW(c:Cfg):Nat->WS->WS
 | 0,x=>x
 |k+1,x=>if ZaC c (ZcJ c x)=ZaC c x then ZcJ c x else goW c k (ZcJ c x)
def ZaW(c:Cfg)(n:Nat)(x:WS):WS:=goW c n (Za4 c x)
section
variable {c:Cfg}{B B':Bd}{m b:Nat}{x:WS}
theorem WInv.tell(h:WInv c B m b x)(hc:c.Ok)(hm:m<=100)(hb:b<=700){r:Nat}(hr:r<c.n)(kind:Nat):∃B',B.le B'/\B'.made=B.made/\WInv c B' m b (Z5 c r x kind):=by
 have ht:tot B.made<=100:=ZT h.sum hm;unfold Z5;split
 ·rename_i g hg;have hf:=((h.nodes r hr).tell hr hc ht hg).1;obtain⟨B',k1,k2,k3,k4,k5⟩:=h.aO hc hm hf;refine⟨B',k1,k2,?_⟩;unfold Zbz;split
  ·rename_i p hp;have hn:=(k5 p.1 p.2 hp).1;have rK:p.1<5:=by have:=hn.n;have:=hc.n5;omega
   obtain⟨e1,e2⟩:=(k3.nodes p.1 hn.n).take rK hc.h20 (by rw[k2];exact ht) hb hn;exact k3.setNode e1 e2
  ·exact k3
 ·exact⟨B,Bd.le.refl B,rfl,h⟩
theorem WInv.aN(h:WInv c B m b x)(hc:c.Ok)(hm:m<=100)(hb:b<=700)(hr:r<c.n):∃B',B.le B'/\B'.made=B.made/\WInv c B' m b (ZdY c x r):=by
 obtain⟨B1,a1,a2,a3⟩:=h.tell hc hm hb hr 1;obtain⟨B2,b1,b2,b3⟩:=a3.tell hc hm hb hr 2;obtain⟨B3,c1,c2,c3⟩:=b3.tell hc hm hb hr 3;exact⟨B3,(a1.trans b1).trans c1,by rw[c2,b2,a2],c3⟩
theorem WInv.turns(hc:c.Ok)(hm:m<=100)(hb:b<=700):∀(l:List Nat) {B:Bd} {x:WS},WInv c B m b x->(∀r∈l,r<c.n)->∃B',B.le B'/\B'.made=B.made/\WInv c B' m b (l.foldl (ZdY c) x)
 | [],B,x,h,_=>⟨B,Bd.le.refl B,rfl,h⟩
 |r::l,B,x,h,hl=>by
  obtain⟨B1,a1,a2,a3⟩:=h.aN hc hm hb (hl r ZM);obtain⟨B2,b1,b2,b3⟩:=WInv.turns hc hm hb l a3 λq hq=>hl q (List.mem_cons_of_mem _ hq)
  exact⟨B2,a1.trans b1,by rw[b2,a2],b3⟩
theorem WInv.round(h:WInv c B m b x)(hc:c.Ok)(hm:m<=100)(hb:b<=700):∃B',B.le B'/\B'.made=B.made/\WInv c B' m b (ZcJ c x) :=
 WInv.turns hc hm hb _ h λr hr=>by simpa using hr
theorem WInv.bB(h:WInv c B m b x)(hc:c.Ok)(hm:m<=100)(hb:b<=700):WInv c B m b ⟨(Za4 c x).nodes,x.hub,x.link⟩:=by
 have ht:tot B.made<=100:=ZT h.sum hm;have h5:=hc.n5;refine⟨λr hr=>?_,λr hr=>?_,h.hub,h.link,h.len,h.sum⟩
 ·simp only[Za4,ZPp hr];exact(h.nodes r hr).aH.start ZO ZO
 ·simp only[Za4,ZPp hr];rw[h.own r hr];unfold ZbI;split <;> rfl
theorem WInv.bf(h:WInv c B m b x)(hc:c.Ok)(hm:m<=100)(hb:b<=700):∃B',B.le B'/\B'.made=B.made/\WInv c B' m b (Za4 c x):=by
 have h1:=h.bB hc hm hb;obtain⟨H,hH,hi,hu⟩:=h1.hub;have h2:=h1.aB hH hi.aH (λhu=>by simp[ZcR]at hu);exact h2.bc hc hm
theorem WInv.go(hc:c.Ok)(hm:m<=100)(hb:b<=700):∀(k:Nat) {B:Bd} {x:WS},WInv c B m b x->∃B',B.le B'/\B'.made=B.made/\WInv c B' m b (goW c k x)
 | 0,B,x,h=>⟨B,Bd.le.refl B,rfl,h⟩
 |k+1,B,x,h=>by
  obtain⟨B1,a1,a2,a3⟩:=h.round hc hm hb;unfold goW;split
  ·exact⟨B1,a1,a2,a3⟩
  ·obtain⟨B2,b1,b2,b3⟩:=WInv.go hc hm hb k a3;exact⟨B2,a1.trans b1,by rw[b2,a2],b3⟩
theorem WInv.rounds(h:WInv c B m b x)(hc:c.Ok)(hm:m<=100)(hb:b<=700)(k:Nat):∃B',B.le B'/\B'.made=B.made/\WInv c B' m b (ZaW c k x):=by
 obtain⟨B1,a1,a2,a3⟩:=h.bf hc hm hb;obtain⟨B2,b1,b2,b3⟩:=WInv.go hc hm hb k a3;exact⟨B2,a1.trans b1,by rw[b2,a2],b3⟩
end
structure Where where
 a:Option Addr
 k:Nat
 hp:Nat
 lp:Nat
 ps:List Nat
structure WorldIn(own:Own)(t:Nat)(w:World)(p:Nat)(c:Cfg)(x:WS)(Z:Where):Prop where
 mine:own p=t
 blk:Blk w p 82 #[.slice Z.a c.n Z.k,ptrV Z.hp,ptrV Z.lp]
 row:w.ownsRow 0 83 1 (.slice Z.a c.n Z.k) c.n (Z.ps.map ptrV)
 rown:∀g,(Value.slice Z.a c.n Z.k).ownBlock=some g->own g=t+1
 len:Z.ps.length=c.n
 node:∀r q,Z.ps[r]? = some q->NodeAt own (t+100+10*r) w q c r (x.nodes r).s
 hub:HubIs own (t+200) w Z.hp c x.hub.s
 link:LinkAt own (t+300) w Z.lp (flsOf x.link)
section
variable {own own':Own}{t p:Nat}{w w':World}{c:Cfg}{x:WS}{T:Nat->Prop}{Z:Where}
theorem WorldIn.at_(h:WorldIn own t w p c x Z):WorldAt own t w p c x :=
 ⟨h.mine,Z.a,Z.k,Z.hp,Z.lp,Z.ps,h.blk,h.row,h.rown,h.len,h.node,h.hub,h.link⟩
theorem WorldAt.cr(h:WorldAt own t w p c x):∃Z,WorldIn own t w p c x Z:=by
 obtain⟨h1,a,k,hp,lp,ps,h2,h3,h4,h5,h6,h7,h8⟩:=h;exact⟨⟨a,k,hp,lp,ps⟩,h1,h2,h3,h4,h5,h6,h7,h8⟩
theorem WorldIn.upd(h:WorldIn own t w p c x Z)(hu:Upd T own own' w w')(hT:∀n,Zu t n->¬T n)(h0:¬T 0)(hc:c.n<=5):WorldIn own' t w' p c x Z:=by
 obtain⟨h1,h2,h3,h4,h5,h6,h7,h8⟩:=h;refine⟨by rw[hu.old p h2.lt];exact h1,h2.upd hu (by rw[h1];exact hT t ⟨ZO,ZO⟩),Zi h3 (λg hg hl=>hu.same g hl (by rw[h4 g hg];exact hT _ ⟨ZO,ZO⟩)),λg hg=>by rw[hu.old g (Zb h3 hg).2];exact h4 g hg,h5,λr q hq=>?_,?_,h8.upd hu (hT _ ⟨ZO,ZO⟩) h0⟩
 ·have hr:r<5:=by have:=(ZZ.1 hq).1;omega
  exact(h6 r q hq).upd hu λn hn=>hT n (hn.world hr)
 ·exact HubAt.upd h7 hu (λn hn=>hT n hn.world) (by rw[h7.len];exact hc)
theorem WorldIn.setNode(h:WorldIn own t w p c x Z)(hc:c.n<=5)(hq:Z.ps[r]? = some q){y:PN}(hu:Upd (NodeT (t+100+10*r)) own own' w w')(hn:NodeAt own' (t+100+10*r) w' q c r y.s):WorldIn own' t w' p c ⟨Zbn x.nodes r y,x.hub,x.link⟩ Z:=by
 obtain⟨h1,h2,h3,h4,h5,h6,h7,h8⟩:=h;have eO:r<5:=by have:=(ZZ.1 hq).1;omega
 refine⟨by rw[hu.old p h2.lt];exact h1,h2.upd hu (by rw[h1];rintro⟨h2,h3⟩;omega),Zi h3 (λg hg hl=>hu.same g hl (by rw[h4 g hg];rintro⟨h2,h3⟩;omega)),λg hg=>by rw[hu.old g (Zb h3 hg).2];exact h4 g hg,h5,λr' q' kr=>?_,?_,h8.upd hu (by rintro⟨h2,h3⟩;omega) (by rintro⟨h2,h3⟩;omega)⟩
 ·by_cases e:r'=r
  ·subst e;rw[hq]at kr;injection kr with kr;subst kr;simp only[ZbA];exact hn
  ·simp only[Za7 e];exact(h6 r' q' kr).upd hu λn hn=>hn.apart e
 ·exact HubAt.upd h7 hu (λn hn=>by obtain⟨h2,h3⟩:=hn;rintro⟨h4,h5⟩;omega) (by rw[h7.len];exact hc)
theorem WorldIn.aB(h:WorldIn own t w p c x Z)(hc:c.n<=5){y:PH}(hu:Upd (HubT (t+200)) own own' w w')(hn:HubIs own' (t+200) w' Z.hp c y.s):WorldIn own' t w' p c ⟨x.nodes,y,x.link⟩ Z:=by
 obtain⟨h1,h2,h3,h4,h5,h6,h7,h8⟩:=h;refine⟨by rw[hu.old p h2.lt];exact h1,h2.upd hu (by rw[h1];rintro⟨h2,h3⟩;omega),Zi h3 (λg hg hl=>hu.same g hl (by rw[h4 g hg];rintro⟨h2,h3⟩;omega)),λg hg=>by rw[hu.old g (Zb h3 hg).2];exact h4 g hg,h5,λr' q' kr=>?_,hn,h8.upd hu (by rintro⟨h2,h3⟩;omega) (by rintro⟨h2,h3⟩;omega)⟩;have hr:r'<5:=by have:=(ZZ.1 kr).1;omega
 exact(h6 r' q' kr).upd hu λn hn=>by obtain⟨h2,h3⟩:=hn;rintro⟨h4,h5⟩;omega
theorem WorldIn.cells(h:WorldIn own t w p c x Z)(h0:0<c.n):∃g,Z.a=some ⟨g,0,none⟩/\g<w.heap.size/\own g=t+1/\∀(r q:Nat),Z.ps[r]? = some q->w.cell? ⟨g,r,none⟩=some (ptrV q):=by
 obtain⟨g,hg,ez,cB⟩:=Zbm h.row h0;have dk:=h.rown;rw[hg]at dk;refine⟨g,hg,ez,dk g rfl,λr q hq=>?_⟩;have hr:=(ZZ.1 hq).1;have iJ:=cB r (by rw[List.length_map];exact hr);rw[List.getElem?_map,hq]at iJ;exact iJ
end
def RoundT(t n:Nat):Prop:=Zu t n∨n=t+6001
structure RoundAt(own:Own)(t:Nat)(w:World)(p:Nat)(c:Cfg)(m b l:Nat)(R:Loop)(Z:Where)(x:WS):Prop where
 at_:WorldIn own t w p c x Z
 fresh:Fresh own w
 inv:∃B,WInv c B m b x
 loop:w.heap[l]? = some (.loop R)
 own:own l=t+6001
section
variable {own own' cZ:Own}{t p m b l:Nat}{w w' w1:World}{c:Cfg}{x:WS}{T:Nat->Prop}{Z:Where}{R R':Loop}
theorem RoundAt.upd(h:RoundAt own t w p c m b l R Z x)(hu:Upd T own own' w w')(hT:∀n,RoundT t n->¬T n)(h0:¬T 0)(hc:c.n<=5):RoundAt own' t w' p c m b l R Z x:=by
 have hl:l<w.heap.size:=(Array.getElem?_eq_some_iff.1 h.loop).1;exact⟨h.at_.upd hu (λn hn=>hT n (.inl hn)) h0 hc,hu.fresh,h.inv,(hu.same l hl (by rw[h.own];exact hT _ (.inr rfl))).trans h.loop,(hu.old l hl).trans h.own⟩
theorem RoundAt.below(h:RoundAt own t w p c m b l R Z x)(hb:L_ w w')(hc:c.n<=5):RoundAt own t w' p c m b l R Z x/\Upd (RoundT t) own own w w' :=
 ⟨h.upd (T:=λ_=>False) (ZUb hb h.fresh) (λ_ _ h=>h) (λh=>h) hc,ZUb hb h.fresh⟩
theorem Upd.putObj{w w1:World}{g:Nat}(h:Upd T own own' w w1)(hg:g<w.heap.size->T (own g))(o:Obj):Upd T own own' w (w1.putObj g o) :=
 ⟨h.os,h.tape,h.output,by rw[World.putObj_size];exact h.size,h.old,λb hb hn=>(World.putObj_heap_other (λe=>hn (by rw[e];exact hg (e▸hb)))).trans (h.same b hb hn),λb hb=>h.fresh b (by rw[World.putObj_size]at hb;exact hb)⟩
theorem RoundAt.aN(ht:0<t)(h:RoundAt own t w p c m b l R Z x)(R':Loop)(hc:c.n<=5):RoundAt own t (w.putObj l (.loop R')) p c m b l R' Z x/\Upd (RoundT t) own own w (w.putObj l (.loop R')):=by
 have hl:l<w.heap.size:=(Array.getElem?_eq_some_iff.1 h.loop).1;have hu:Upd (· = t+6001) own own w (w.putObj l (.loop R')):=(Upd.refl (· = t+6001) own w h.fresh).putObj (λ_=>h.own) _;exact⟨⟨h.at_.upd hu (λn hn=>by obtain⟨h1,h2⟩:=hn;omega) ZO hc,hu.fresh,h.inv,World.putObj_heap_same hl,h.own⟩,hu.mono λn hn => .inr hn⟩
end
section
variable {own:Own}{t p m b:Nat}{w:World}{c:Cfg}{B:Bd}{x:WS}
abbrev Ztl(to:Nat)(v:Value):Value := .agg #[I_ J_ to,v]
theorem ZfZ(ht:0<t)(h:WorldAt own t w p c x)(hf:Fresh own w)(hi:WInv c B m b x)(hc:c.Ok)(hm:m<=100)(hb:b<=700){to:Nat}(hg:FlG c B (to,f))(gF:Bytes w a n cap (Zn f)):
  Calls prog 61 #[ptrV p,Ztl to (S_ a n cap)] w λe w'=>e=R_ (I_ J_ (Zcg c x to f).2)/\∃own',WorldAt own' t w' p c (Zcg c x to f).1/\Upd (Zu t) own own' w w':=by
 have h5:=hc.n5;have eX:tot B.made<=100:=ZT hi.sum hm;have cP:=(ZW w.heap.size w).alloc (ZL _) (C_ #[I_ J_ to,S_ a n cap] 136);have hX:=ZBn w 136 #[I_ J_ to,S_ a n cap];have dt:Upd (λ_=>False) own own w (w.alloc (C_ #[I_ J_ to,S_ a n cap] 136)):=ZUb cP hf;obtain⟨HW,lG⟩:=ZH2 (h.upd dt (λ_ _ h=>h) (λh=>h) h5) (gF.kept cP (ZL _));obtain⟨x0,x1⟩:=hX.two;have fV:=hX.lt;obtain⟨HU,HX,HI,HG,HC⟩:=ZH5 dt hX hi hg hc;clear h hf hi hg gF cP hX dt;go_enter func61,ntmps61;go_wp2_with fail;generalize (w.alloc (C_ #[I_ J_ to,S_ a n cap] 136))=W at *;by_cases hn:to<c.n
 ·refine(ZaO HW.out hn).mono ?_;rintro _ w1 ⟨rfl,cz⟩;have cN:Upd (λ_=>False) own own W w1:=ZUb cz HU.out.fresh;have dD:=HW.out.upd cN (λ_ _ h=>h) (λh=>h) h5;obtain⟨g,k,hp,lp,q,cH,ez,cB,dB,fw⟩:=dD.node hn h5;have pU:NodeFrm c B to f:=by
   rcases HG.out with ⟨_,h⟩|⟨h,_⟩
   ·exact h
   ·simp only at h;omega
  have gi:(0:Int)<=(to:Int):=ZO;have lw:(to:Int)<(c.n:Int):=ZO;obtain⟨HB,nW,HN,jU,dA,fJ,qr,DC⟩:=ZH8 cH cB dB fw (HU.out.trans cN) (HX.out.ob cz) (lG.out.kept cz (ZL _)) pU;clear cz cN dD cH cB dB fw pU x0 x1 fV;go_wp2_with fail;refine ZSi [(0,3),(1,0),(2,3),(3,0),(4,3),(5,0),(6,3),(7,0),(8,3),(9,0),(10,2),(11,3)] λcu=>?_
  repeat((first|refine ZSa ?_|refine ZSb ?_|(refine Zf (v:=?_) rfl (by rfl) ?_ ?_;rotate_left 1;(intro w' cL;(obtain⟨c0,c1,c2⟩:=(HB.out.ob cL.below).three);(obtain⟨x0,x1⟩:=(fJ.out.ob cL.below).two);(have iJ:=(cL.below.cell (p:=⟨g,to,none⟩) ez).trans nW.out);go_simp;with_reducible rfl)));simp only[Act.put,Q_])
  refine ZSe λK hK=>?_
  go_simp;have dF:Upd (λ_=>False) own own w1 w1.drew:=ZUb (ZW w1.heap.size w1).drew dA.out.fresh;refine(Zj3 ZO (HN.out.upd dF (λ_ _ h=>h)) dF.fresh (HI.out.nodes _ hn) ZO eX hb DC.out (qr.out.kept (ZW w1.heap.size w1).drew (ZL _))).mono ?_;rintro _ w2 ⟨rfl,cK,fI,cM⟩;have de:=(dF.mono (T':=NodeT (t+100+10*to)) (λn h=>h.elim)).trans cM;have ee:=jU.out _ _ _ de fI;have ei:Upd (Zu t) own cK w w2:=(dA.out.mono (λn h=>h.elim)).trans (de.mono (λn h=>h.world ZO));obtain⟨fq,gj⟩:=ZH2 ee ei;refine hK.out _ _ ?_;clear hK K cu dF fI cM de ee ei;repeat((first|refine ZSa ?_|refine ZSb ?_|refine ZSc ?_);simp only[Act.put,Q_])
  refine ZSf ?_;go_wp2
  go_ret;unfold Zcg;rw[ZPp hn];exact⟨rfl,cK,fq.out,gj.out⟩
 ·refine(Zbk HW.out (.inr ZO)).mono ?_;rintro _ w1 ⟨rfl,cz⟩;have cN:Upd (λ_=>False) own own W w1:=ZUb cz HU.out.fresh;have dD:=HW.out.upd cN (λ_ _ h=>h) (λh=>h) h5;obtain⟨vn,hp,lp,cH,eA,fw⟩:=dD.hub;have pU:HubFrm c B f:=by
   rcases HG.out with ⟨h,_⟩|⟨_,h⟩
   ·exact absurd h hn
   ·exact h
  obtain⟨HB,HN,jU,dA,fJ,qr,DC⟩:=ZH7 cH eA fw (HU.out.trans cN) (HX.out.ob cz) (lG.out.kept cz (ZL _)) pU;clear cz cN dD cH eA fw pU x0 x1 fV;go_wp2_with fail;refine ZSi [(0,3),(1,0),(2,3),(3,0),(4,3),(5,0),(6,2),(7,3),(8,3),(9,3),(10,3),(11,3),(12,3),(13,3)] λcu=>?_
  repeat((first|refine ZSa ?_|refine ZSb ?_|(refine Zf rfl (by rfl) (λw' cL=>by(obtain⟨c0,c1,c2⟩:=(HB.out.ob cL.below).three);(obtain⟨x0,x1⟩:=(fJ.out.ob cL.below).two);go_simp;with_reducible rfl) ?_));simp only[Act.put,Q_])
  refine ZSe λK hK=>?_
  go_simp;have dF:Upd (λ_=>False) own own w1 w1.drew:=ZUb (ZW w1.heap.size w1).drew dA.out.fresh;obtain⟨HH,hH,qg,hhu⟩:=HI.out.hub;refine(Zk8 ZO (HubAt.upd HN.out dF (λ_ _ h=>h) (by have:=HN.out.len;omega)) dF.fresh qg HC.out eX (DC.out.more (Bd.aL hH)) (qr.out.kept (ZW w1.heap.size w1).drew (ZL _))).mono ?_;intro r2 w2 hP;obtain⟨y0,y1,y2,rfl⟩:=hP.shape;obtain⟨cK,cM,sC,fT⟩:=hP;have de:=(dF.mono (T':=HubT (t+200)) (λn h=>h.elim)).trans cM;have ee:=jU.out _ _ (Zh c x.hub f).1 h5 de sC;have ei:Upd (Zu t) own cK w w2:=(dA.out.mono (λn h=>h.elim)).trans (de.mono (λn h=>h.world));obtain⟨fq,gj,lJ⟩:=ZH3 ee ei fT;refine hK.out _ _ ?_;clear hK K cu dF cM sC de ee ei fT;repeat((first|refine ZSa ?_|refine ZSb ?_|refine ZSc ?_);simp only[Act.put,Q_])
  refine ZSf ?_
  cases ho:(Zaq c x.hub.s f).2.1 with
  |some pr =>
   have fT:=lJ.out;rw[ho]at fT;obtain⟨v,e,cT,lj⟩:=fT;simp only[Ending.returned.injEq,Value.tuple.injEq,Array.mk.injEq,List.cons.injEq,and_true]at e;obtain⟨rfl,rfl,rfl⟩:=e;have pX:((0:Int)==0)=true:=rfl;obtain⟨B',k1,k2,k3,k4,k5⟩:=HI.out.aO HC.out hm DC.out;have gM:=(k5 pr.1 pr.2 ho).1;obtain⟨L3,Lk⟩:=ZH2 gM.n gM.ok;have oK:Hid ((Zh c x.hub f).2.2=0):=ZH (k5 pr.1 pr.2 ho).2;have HO:=ZH ho;clear k1 k2 k3 k4 k5 gM ho;go_wp2_with fail;refine(ZaO fq.out L3.out).mono ?_;rintro _ w3 ⟨rfl,cG⟩;have iD:Upd (λ_=>False) cK cK w2 w3:=ZUb cG gj.out.fresh;have mV:=fq.out.upd iD (λ_ _ h=>h) (λh=>h) h5;obtain⟨vn,gO,lp3,cH,kQ,fw⟩:=mV.link;obtain⟨c0,c1,c2⟩:=cH.three;have oA:=cH.lt;obtain⟨av,kv,rfl,gF⟩:=Bytes.ae cT;have hS:=Zld kQ iD.fresh (by unfold flsOf;rw[List.length_map];have:=HI.out.len;simp only;omega) ZO pr.1 (gF.kept cG (ZL _)) (by have:=Zdd Lk.out;omega);obtain⟨HS,ka,Mz⟩:=ZH3 hS iD fw;clear cT cG iD mV cH kQ fw gF hS c0 c1;go_wp2_with fail;refine HS.out.mono ?_;rintro _ w4 ⟨rfl,dX,yh,ib⟩;have mW:=Mz.out _ _ (x.link++[pr]) h5 ib (by unfold flsOf at yh ⊢;rw[List.map_append];exact yh);have lg:Hid (Upd (Zu t) own dX w w4):=ZH ((gj.out.trans (ka.out.mono (λn h=>h.elim))).trans (ib.mono (λn h=>⟨ZO,ZO⟩)));have ru:=ZH mW;clear mW yh ib;go_wp2
   go_ret;unfold Zcg;have mL:(Zh c x.hub f).2.1=some pr:=HO.out;rw[ZPn hn,oK.out,mL];exact⟨rfl,dX,ru.out,lg.out⟩
  |none =>
   have fT:=lJ.out;rw[ho]at fT;have e:Ending.returned (.tuple #[y0,y1,y2])=R_ (.tuple #[I_ J_ (-1),S_ none 0 0,I_ J_ ((Zh c x.hub f).2.2:Nat)]):=fT;simp only[Ending.returned.injEq,Value.tuple.injEq,Array.mk.injEq,List.cons.injEq,and_true]at e;obtain⟨rfl,rfl,rfl⟩:=e;have mL:(Zh c x.hub f).2.1=none:=ho;have HO:=ZH mL;clear fT ho mL
   have nj:Hid (∃own',WorldAt own' t w2 p c (Zcg c x to f).1/\Upd (Zu t) own own' w w2):=ZH ⟨cK,by
    unfold Zcg;rw[ZPn hn,HO.out];simp only[List.append_nil]
    exact fq.out,gj.out⟩
   have iL:(Zcg c x to f).2=(Zh c x.hub f).2.2:=by unfold Zcg;rw[ZPn hn]
   obtain⟨k,hk⟩:∃k,k=(Zh c x.hub f).2.2:=⟨_,rfl⟩;rw[←hk]at iL ⊢;have P4:=ZH iL;clear hk iL;by_cases cR:k=0
   ·subst cR;have pX:(((0:Nat):Int)==0)=true:=rfl;go_wp2_with fail;refine(Zbk fq.out (.inl ZO)).mono ?_;rintro _ w3 ⟨rfl,cG⟩;obtain⟨own',mU,kG⟩:=nj.out;have iD:Upd (λ_=>False) own' own' w2 w3:=ZUb cG kG.fresh;obtain⟨pi,ew⟩:=ZH2 (mU.upd iD (λ_ _ h=>h) (λh=>h) h5) (kG.trans (iD.mono (T':=Zu t) (λn h=>h.elim)));clear iD mU kG cG;go_wp2
    go_ret;exact⟨by rw[P4.out];rfl,own',pi.out,ew.out⟩
   ·have pX:((k:Int)==0)=false:=ZP;go_wp2
    go_ret;exact⟨by rw[P4.out];rfl,nj.out⟩
end
theorem ZmH{own:Own}{p:Nat}{s:HubSt}(h:HubIs own t w p c s)(hb:Bytes w a n cap l)(hs:∀x∈l,x<256)(hn:n<=2048)(gY:¬ZdL l):
  Calls prog 50 #[P_ (some ⟨p,0,none⟩),S_ a n cap] w (Zx (.tuple #[I_ J_ (-1),S_ none 0 0,I_ J_ (if s.up=true then 4 else 18)]) w):=by
 obtain⟨dp,pp,h3,yc⟩:=h.ex;obtain⟨c0,c1,c2,c3,c4,c5,c6,c7,c8⟩:=h3.am;have eC:=N_
 obtain⟨lG,HS,tc⟩:=ZH3 hb hs gY;clear h3 yc h hb hs gY;obtain⟨up,d,sh,told⟩:=s;rcases up with _|_
 ·go_enter func50,ntmps50;go_wp2_with fail;go_ret3
  exact⟨rfl,ZW _ _⟩
 ·go_enter func50,ntmps50;go_wp2_with fail;refine(Zk4 lG.out HS.out hn tc.out).mono ?_;rintro _ w2 ⟨rfl,cD⟩;have HZ:=ZH (ZBn w2 158 (Za Zc3 (S_ none 0 0)));have cG:=((cD.alloc cD.size (C_ (Za Zc3 (S_ none 0 0)) 158)));have hk:K_ w (w2.alloc (C_ (Za Zc3 (S_ none 0 0)) 158)):=⟨cG,cG.size⟩;have HK:=ZH (hk.row cD.size (Za Zc3 (S_ none 0 0)));clear cG hk cD c0 c1 c2 c3 c4 c5 c6 c7 c8
  go_wp2_with (first
   |(refine ZS rfl 158 rfl (Za Zc3 (S_ none 0 0)) ZK ?_)
   |(refine wpList_store_row rfl 158 (.tmp 7) (.tmp 18) rfl w2.heap.size (Za Zc3 (S_ none 0 0)) rfl rfl 158 (Za Zc3 (S_ none 0 0)) HZ.out (Zaz _ _) rfl (Zbt _ _ _ _) ?_))
  go_ret3
  exact⟨rfl,HK.out.below⟩
theorem ZlY{own:Own}{p:Nat}{s:NodeSt}(h:NodeAt own t w p c r s)(hb:Bytes w a n cap l)(hs:∀x∈l,x<256)(hn:n<=2048)(gY:¬ZdL l):
  Calls prog 51 #[ptrV p,S_ a n cap] w (Zx (I_ J_ (if s.up=true then 4 else 18)) w):=by
 obtain⟨h1,dp,bp,ip,op,lv,h3,h4,h5,h6,h7,h8⟩:=h;obtain⟨c6,c7,c8,c9,dg,dh,eH,eI⟩:=h3.ai;have cI:=h3.lt;have eC:=N_
 obtain⟨lG,HS,tc⟩:=ZH3 hb hs gY;clear h1 h3 h4 h5 h6 h7 h8 hb hs gY;obtain⟨up,d,log,sent,book,clk,held,wait⟩:=s;rcases up with _|_
 ·go_enter func51,ntmps51;go_wp2
  go_ret;exact⟨rfl,ZW _ _⟩
 ·go_enter func51,ntmps51;go_wp2_with fail;refine(Zk4 lG.out HS.out hn tc.out).mono ?_;rintro _ w2 ⟨rfl,cD⟩;have HZ:=ZH (ZBn w2 158 (Za Zc3 (S_ none 0 0)));have cG:=((cD.alloc cD.size (C_ (Za Zc3 (S_ none 0 0)) 158)));have hk:K_ w (w2.alloc (C_ (Za Zc3 (S_ none 0 0)) 158)):=⟨cG,cG.size⟩;have HK:=ZH (hk.row cD.size (Za Zc3 (S_ none 0 0)));clear cG hk cD c6 c7 c8 c9 dg dh eH eI
  go_wp2_with (first
   |(refine ZS rfl 158 rfl (Za Zc3 (S_ none 0 0)) ZK ?_)
   |(refine wpList_store_row rfl 158 (.tmp 5) (.tmp 17) rfl w2.heap.size (Za Zc3 (S_ none 0 0)) rfl rfl 158 (Za Zc3 (S_ none 0 0)) HZ.out (Zaz _ _) rfl (Zbt _ _ _ _) ?_))
  go_ret;exact⟨rfl,HK.out.below⟩
section
variable {own:Own}{t p m b:Nat}{w:World}{c:Cfg}{B:Bd}{x:WS}
theorem Zjv(_ht:0<t)(h:WorldAt own t w p c x)(hf:Fresh own w)(h5:c.n<=5){to:Nat}(gF:Bytes w a n cap l)(hs:∀x∈l,x<256)(fI:n<=2048)(gY:¬ZdL l):
  Calls prog 61 #[ptrV p,Ztl to (S_ a n cap)] w λe w'=>e=R_ (I_ J_ (ZfG c x to))/\∃own',WorldAt own' t w' p c x/\Upd (Zu t) own own' w w':=by
 have cP:=(ZW w.heap.size w).alloc (ZL _) (C_ #[I_ J_ to,S_ a n cap] 136);have hX:=ZBn w 136 #[I_ J_ to,S_ a n cap];have dt:Upd (λ_=>False) own own w (w.alloc (C_ #[I_ J_ to,S_ a n cap] 136)):=ZUb cP hf;obtain⟨HW,lG⟩:=ZH2 (h.upd dt (λ_ _ h=>h) (λh=>h) h5) (gF.kept cP (ZL _));obtain⟨x0,x1⟩:=hX.two;have fV:=hX.lt;obtain⟨HU,HX,HS,tc⟩:=ZH4 dt hX hs gY;clear h hf gF cP hX dt hs gY;go_enter func61,ntmps61;go_wp2_with fail;generalize (w.alloc (C_ #[I_ J_ to,S_ a n cap] 136))=W at *;by_cases hn:to<c.n
 ·refine(ZaO HW.out hn).mono ?_;rintro _ w1 ⟨rfl,cz⟩;have cN:Upd (λ_=>False) own own W w1:=ZUb cz HU.out.fresh;have dD:=HW.out.upd cN (λ_ _ h=>h) (λh=>h) h5;obtain⟨g,k,hp,lp,q,cH,ez,cB,dB,fw⟩:=dD.node hn h5;have gi:(0:Int)<=(to:Int):=ZO;have lw:(to:Int)<(c.n:Int):=ZO;obtain⟨HB,nW,HN,gk,dA,fJ,qr⟩:=ZH7 cH cB dB dD (HU.out.trans cN) (HX.out.ob cz) (lG.out.kept cz (ZL _));clear cz cN dD cH cB dB fw x0 x1 fV;go_wp2_with fail;refine ZSi [(0,3),(1,0),(2,3),(3,0),(4,3),(5,0),(6,3),(7,0),(8,3),(9,0),(10,2),(11,3)] λcu=>?_
  repeat((first|refine ZSa ?_|refine ZSb ?_|(refine Zf (v:=?_) rfl (by rfl) ?_ ?_;rotate_left 1;(intro w' cL;(obtain⟨c0,c1,c2⟩:=(HB.out.ob cL.below).three);(obtain⟨x0,x1⟩:=(fJ.out.ob cL.below).two);(have iJ:=(cL.below.cell (p:=⟨g,to,none⟩) ez).trans nW.out);go_simp;with_reducible rfl)));simp only[Act.put,Q_])
  refine ZSe λK hK=>?_
  go_simp;have dF:Upd (λ_=>False) own own w1 w1.drew:=ZUb (ZW w1.heap.size w1).drew dA.out.fresh;refine(ZlY (HN.out.upd dF (λ_ _ h=>h)) (qr.out.kept (ZW w1.heap.size w1).drew (ZL _)) HS.out fI tc.out).mono ?_;rintro _ w2 ⟨rfl,cD⟩;have tq:=dF.kept cD;have fq:=ZH (gk.out.upd tq (λ_ _ h=>h) (λh=>h) h5);have gj:Hid (Upd (Zu t) own own w w2):=ZH ((dA.out.trans tq).mono (λn h=>h.elim));refine hK.out _ _ ?_;clear hK K cu dF cD tq;have e:(if (x.nodes to).s.up=true then(4:Int) else 18)=((ZfG c x to:Nat):Int):=by unfold ZfG;rw[ZPp hn];split <;> rfl
  rw[e];obtain⟨k,hk⟩:∃k,k=ZfG c x to:=⟨_,rfl⟩;rw[←hk];have HK:=ZH hk;clear e hk;repeat((first|refine ZSa ?_|refine ZSb ?_|refine ZSc ?_);simp only[Act.put,Q_])
  refine ZSf ?_;go_wp2
  go_ret;exact⟨by rw[←HK.out];rfl,own,fq.out,gj.out⟩
 ·refine(Zbk HW.out (.inr ZO)).mono ?_;rintro _ w1 ⟨rfl,cz⟩;have cN:Upd (λ_=>False) own own W w1:=ZUb cz HU.out.fresh;have dD:=HW.out.upd cN (λ_ _ h=>h) (λh=>h) h5;obtain⟨vn,hp,lp,cH,eA,fw⟩:=dD.hub;obtain⟨HB,HN,gk,dA,fJ,qr⟩:=ZH6 cH eA dD (HU.out.trans cN) (HX.out.ob cz) (lG.out.kept cz (ZL _));clear cz cN dD cH eA fw x0 x1 fV;go_wp2_with fail;refine ZSi [(0,3),(1,0),(2,3),(3,0),(4,3),(5,0),(6,2),(7,3),(8,3),(9,3),(10,3),(11,3),(12,3),(13,3)] λcu=>?_
  repeat((first|refine ZSa ?_|refine ZSb ?_|(refine Zf rfl (by rfl) (λw' cL=>by(obtain⟨c0,c1,c2⟩:=(HB.out.ob cL.below).three);(obtain⟨x0,x1⟩:=(fJ.out.ob cL.below).two);go_simp;with_reducible rfl) ?_));simp only[Act.put,Q_])
  refine ZSe λK hK=>?_
  go_simp;have dF:Upd (λ_=>False) own own w1 w1.drew:=ZUb (ZW w1.heap.size w1).drew dA.out.fresh;refine(ZmH (HubAt.upd HN.out dF (λ_ _ h=>h) (by have:=HN.out.len;omega)) (qr.out.kept (ZW w1.heap.size w1).drew (ZL _)) HS.out fI tc.out).mono ?_;rintro _ w2 ⟨rfl,cD⟩;have tq:=dF.kept cD;have fq:=ZH (gk.out.upd tq (λ_ _ h=>h) (λh=>h) h5);have gj:Hid (Upd (Zu t) own own w w2):=ZH ((dA.out.trans tq).mono (λn h=>h.elim));refine hK.out _ _ ?_;clear hK K cu dF cD tq;repeat((first|refine ZSa ?_|refine ZSb ?_|refine ZSc ?_);simp only[Act.put,Q_])
  refine ZSf ?_;have e:(if x.hub.s.up=true then(4:Int) else 18)=((ZfG c x to:Nat):Int):=by unfold ZfG;rw[ZPn hn];split <;> rfl
  rw[e];have hz:ZfG c x to≠0:=by
   unfold ZfG;rw[ZPn hn];split <;> omega
  obtain⟨k,hk⟩:∃k,k=ZfG c x to:=⟨_,rfl⟩;rw[←hk]at hz ⊢;have pX:((k:Int)==0)=false:=ZP;have HK:=ZH hk;clear e hk;go_wp2
  go_ret;exact⟨by rw[←HK.out];rfl,own,fq.out,gj.out⟩
end
theorem Zt8(k a b:Nat):2 ^ k*(a ^^^ b)=2 ^ k*a ^^^ 2 ^ k*b:=by
 have e:=Nat.shiftLeft_xor_distrib (a:=a) (b:=b) (i:=k);simp only[Nat.shiftLeft_eq]at e;rw[Nat.mul_comm (2 ^ k),Nat.mul_comm (2 ^ k),Nat.mul_comm (2 ^ k)];exact e
theorem Zt4{x i:Nat}(h:x<2 ^ i):2 ^ i+x=x ^^^ 2 ^ i:=by
 have h1:=Nat.two_pow_add_eq_or_of_lt (b:=x) (i:=i) h 1;rw[Nat.mul_one]at h1;rw[h1];apply Nat.eq_of_testBit_eq;intro j;rw[Nat.testBit_xor,Nat.testBit_or,Nat.testBit_two_pow];by_cases hj:i=j
 ·subst hj;have:x.testBit i=false:=Nat.testBit_lt_two_pow h;simp[this]
 ·simp[hj]
theorem Zso{m:Nat}(h:m / 2 ^ q%2=1):m%2 ^ (q+1)=m%2 ^ q ^^^ 2 ^ q:=by
 have hl:m%2 ^ q<2 ^ q:=Nat.mod_lt _ (Nat.two_pow_pos q);rw[Nat.mod_pow_succ,h,Nat.mul_one,Nat.add_comm,Zt4 hl]
theorem Zt6{m:Nat}(h:m / 2 ^ q%2=0):m%2 ^ (q+1)=m%2 ^ q:=by
 rw[Nat.mod_pow_succ,h,Nat.mul_zero,Nat.add_zero]
theorem Zue{b:Nat}(h:b<8):(2:Int) ^ b%256=((2 ^ b:Nat):Int):=by
 rcases(by omega:b=0∨b=1∨b=2∨b=3∨b=4∨b=5∨b=6∨b=7) with rfl|rfl|rfl|rfl|rfl|rfl|rfl|rfl <;> rfl
def Turned(s t:List Nat)(k:Nat)(mask q:Nat):Prop:=t.length=s.length/\(∀x∈t,x<256)/\big t=big s ^^^ 2 ^ k*(mask%2 ^ q)
theorem Turned.zero{s:List Nat}(hs:∀x∈s,x<256)(k mask:Nat):Turned s s k mask 0:=⟨rfl,hs,by simp[Nat.mod_one]⟩
theorem Turned.no{s t:List Nat}{mask:Nat}(h:Turned s t k mask q)(h0:mask / 2 ^ q%2=0):Turned s t k mask (q+1):=⟨h.1,h.2.1,by rw[Zt6 h0];exact h.2.2⟩
theorem Turned.yes{s t:List Nat}{mask:Nat}(h:Turned s t k mask q)(h1:mask / 2 ^ q%2=1)(hq:k+q<8*s.length):
  Turned s (t.set ((k+q) / 8) (t.getD ((k+q) / 8) 0 ^^^ 2 ^ ((k+q)%8))) k mask (q+1):=by
 obtain⟨hl,hs,hb⟩:=h;have hj:(k+q) / 8<t.length:=ZO;have BT:=Zmg hs hj (b:=(k+q)%8) ZO;refine⟨by rw[List.length_set,hl],?_,?_⟩
 ·intro x hx;rcases List.mem_or_eq_of_mem_set hx with h|h
  ·exact hs x h
  ·rw[h];exact Nat.xor_lt_two_pow (n:=8) (ZgY hs _) (Nat.pow_lt_pow_right (n:=8) ZO ZO)
 ·rw[BT,Zso h1,Zt8,hb,show 8*((k+q) / 8)+(k+q)%8=k+q by omega,Nat.pow_add,Nat.xor_assoc]
theorem Zn6{t:List Nat}{mask:Nat}(hl:∀x∈l,x<256)(h:Turned (ZaF l) t k mask q)(hk:k<=8*(ZaF l).length)(hm:mask<4294967296)(ho:ZdL t):t=ZaF l:=by
 obtain⟨h1,h2,h3⟩:=h;have hlen:t.length-4+4=t.length:=by have:=ho.1;omega
 have rM:=ho.2;have e:t=t.take (t.length-4)++t.drop (t.length-4):=(List.take_append_drop _ _).symm;have hr:regN Zds t=ZkJ:=by
  have hd:(t.drop (t.length-4)).length=4:=by rw[List.length_drop];omega
  have:=(Zlo (l:=t.take (t.length-4)) (d:=t.drop (t.length-4)) (λx hx=>h2 x (List.mem_of_mem_take hx)) (λx hx=>h2 x (List.mem_of_mem_drop hx)) hd).1 rM;rwa [←e]at this
 refine ZuR (Zfs hl) h2 h1 hk (w:=mask%2 ^ q) (Nat.lt_of_le_of_lt (Nat.mod_le _ _) hm) h3 ?_;rw[hr,ZsW hl]
theorem Zug{bit:Int}(hn:0<n):(0<=bit.tmod n/\∃k:Nat,bit.tmod n=(k:Int)/\k<n)∨(bit.tmod n<0/\∃k:Nat,bit.tmod n+n=(k:Int)/\k<n):=by
 have h0:=Int.tmod_lt_of_pos bit (b:=(n:Int)) ZO;have h1:=Int.lt_tmod_of_pos bit (b:=(n:Int)) ZO;by_cases h:0<=bit.tmod n
 ·exact .inl ⟨h,(bit.tmod n).toNat,ZO,ZO⟩
 ·exact .inr ⟨ZO,(bit.tmod n+n).toNat,ZO,ZO⟩
def Zp6(s:List Nat)(mask:Nat)(w:World)(r:Ending)(w':World):Prop:=∃v t k q,r=R_ v/\w'.ownsRow w.heap.size 5 1 v t.length (cells t)/\Turned s t k mask q/\k<=8*s.length/\L_ w w'
theorem Zqf(a:Option Addr)(n cap:Nat)(s:List Nat)(bit:Int)(mask:Nat)(w:World)(h:Bytes w a n cap s)(hs:∀x∈s,x<256)(gi:0<n)(hn:n<=100000)(hm:mask<4294967296):
  Calls prog 60 #[S_ a n cap,I_ J_ bit,.int .u32 mask] w (Zp6 s mask w):=by
 have hlen:=h.len;obtain⟨tC,gb,HS⟩:=ZH3 (ZeO h ZO) hlen hs;clear h hs hlen;obtain⟨N,hN⟩:∃N:Nat,N=8*n:=⟨_,rfl⟩;have hwN:IntKind.i64.wrap (8*(n:Int))=(N:Int):=by rw[IntKind.wrap_i64];omega
 have hzN:((N:Int)==0)=false:=by rw[beq_eq_false_iff_ne];omega
 have hzN2:¬(N:Int)=0:=ZO;have fQ:IntKind.i64.wrap (bit.tmod N)=bit.tmod N:=by
  have h0:=Int.tmod_lt_of_pos bit (b:=(N:Int)) ZO;have h1:=Int.lt_tmod_of_pos bit (b:=(N:Int)) ZO;rw[IntKind.wrap_i64];omega
 have J8:N<=800000:=ZO;have lH:=ZH hN;have eP:=Zug (bit:=bit) (n:=N) ZO;clear hN;rcases eP with ⟨eN,k,hk,gh⟩|⟨yn,k,hk,gh⟩
 focus
  have cI:decide (bit.tmod (N:Int)<0)=false:=ZP;rw[hk]at fQ cI
 rotate_left
 focus
  have cI:decide (bit.tmod (N:Int)<0)=true:=ZP;have Gg:IntKind.i64.wrap (bit.tmod (N:Int)+(N:Int))=(k:Int):=by rw[hk,IntKind.wrap_i64];omega
  clear hk yn
 rotate_left
 all_goals
  go_enter func60,ntmps60;go_wp2_with fail;refine tC.out.mono ?_;rintro _ w3 ⟨v3,rfl,dW,cG⟩;have R8:=gb.out;rw[R8]at dW;obtain⟨g,c4,rfl,N6,_⟩:=Zsv dW ZO;have RN:=(Zb dW rfl).2;have dr:K_ w w3:=Kept.start cG;obtain⟨iR,UJ⟩:=ZH2 dW (Turned.zero HS.out k mask);clear dW cG R8;go_wp2_with fail;go_loopw [10] (λi wr=>∃(q:Nat) (tl:List Nat),q<=32/\i=I_ J_ q/\Hid (Turned s tl k mask q)/\Hid (wr.ownsRow w.heap.size 5 1 (S_ (some ⟨g,0,none⟩) n c4) n (cells tl))/\Hid (K_ w wr)/\g<wr.heap.size) (λi _=>32-(intOf i).toNat)
  case atStart=>exact⟨0,s,ZO,rfl,UJ,iR,ZH dr,RN⟩
  case round =>
   clear dr RN;obtain⟨q,tl,hq,rfl,HT,HO,HK,RO⟩:=hrel;have vN:IntKind.i64.wrap ((N:Int)-(k:Int))=(N:Int)-(k:Int):=by rw[IntKind.wrap_i64];omega
   by_cases ie:q<32/\k+q<N
   ·obtain⟨O3,Kl⟩:=ie;have lm:decide ((q:Int)<32)=true:=ZP;have eQ:decide ((q:Int)<(N:Int)-(k:Int))=true:=ZP;have im:(mask:Int) / 2 ^ q=((mask / 2 ^ q:Nat):Int):=ZM;have BP:=ZiB (x:=mask / 2 ^ q) (Nat.lt_of_le_of_lt (Nat.div_le_self _ _) hm);rw[←im]at BP;rcases Nat.mod_two_eq_zero_or_one (mask / 2 ^ q) with h2|h2
    ·have IK:=HT.out.no h2;rw[h2]at BP;have MS:=ZH IK;clear h2 IK im;go_wp2
     go_roundw
     case rel=>exact⟨q+1,tl,ZO,ZN,MS,HO,HK,RO⟩
     case measure=>simp[intOf];omega
    ·rw[h2]at BP;have hlen:tl.length=n:=by rw[HT.out.1,gb.out]
     have IK:=HT.out.yes h2 (by rw[gb.out,←lH.out];exact Kl);have hj:(k+q) / 8<n:=by have:=lH.out;omega
     have cB:=HO.out.cellAt ((k+q) / 8) ZO;rw[ZhI ZO]at cB;have gM:=HO.out.frozenAt ((k+q) / 8);have Iz:=Zue (b:=(k+q)%8) ZO;have zI:=ZgY HT.out.2.1 ((k+q) / 8);have I4:=u8_xor_nat (tl.getD ((k+q) / 8) 0) (2 ^ ((k+q)%8)) zI (Nat.pow_lt_pow_right (n:=8) ZO ZO);obtain⟨zZ,GM⟩:=HO.out.stored ((k+q) / 8) (.int .u8 ((tl.getD ((k+q) / 8) 0 ^^^ 2 ^ ((k+q)%8):Nat):Int));have DZ:((k:Int)+(q:Int)).tdiv 8=(((k+q) / 8:Nat):Int):=by rw[Int.tdiv_eq_ediv_of_nonneg ZO];omega
     have hbI:((k:Int)+(q:Int)).tmod 8=(((k+q)%8:Nat):Int):=by rw[Int.tmod_eq_emod_of_nonneg ZO];omega
     have hwj:IntKind.i64.wrap (((k+q) / 8:Nat):Int)=(((k+q) / 8:Nat):Int):=IntWalk.i64_in _ ZO;have Ea:IntKind.i64.wrap (((k+q)%8:Nat):Int)=(((k+q)%8:Nat):Int):=IntWalk.i64_in _ ZO;have rQ:IntKind.i64.wrap ((k:Int)+(q:Int))=(k:Int)+(q:Int):=IntWalk.i64_in _ ZO;generalize (k+q) / 8=j at *;have ga:(k+q)%8<8:=ZO;have RZ:(j:Int)<(n:Int):=ZO;generalize (k+q)%8=b at *;generalize tl.getD j 0 ^^^ 2 ^ b=D at *;generalize tl.getD j 0=old at *;generalize (2:Nat) ^ b=pb at Iz I4;obtain⟨MS,Uu,HG',HD⟩:=ZH4 IK zZ GM (show bits .xor .u8 (old:Int) ((2:Int) ^ b%256)=(D:Int) by rw[Iz];exact I4);clear h2 IK im zZ GM;go_wp2_with fail;refine ZSi [(0,3),(1,3),(2,3),(3,3),(4,3),(5,3),(6,0),(7,3),(8,3),(9,3),(10,3),(11,3),(12,3),(13,3),(14,2)] λcu=>?_
     repeat((first|refine ZSa ?_|refine ZSb ?_|refine ZSc ?_);simp only[Act.put,Q_])
     refine ZSe λK hK=>?_
     go_simp;refine hK.out _ _ ?_;clear hK K;refine ZSf ?_;go_wp2_with fail;have dZ:=(HK.out.setCell (p:=⟨g,j,none⟩) N6 (.int .u8 (D:Int))).drew;have dQ:=Uu.out;rw[Zqj]at dQ;have iX:=ZH (show World.ownsRow (wr.setCell ⟨g,j,none⟩ (.int .u8 (D:Int))).drew w.heap.size 5 1 (S_ (some ⟨g,0,none⟩) n c4) n (cells (tl.set j D)) from dQ);go_roundw
     case rel=>rw[HD.out];exact⟨q+1,tl.set j D,ZO,ZN,MS,iX,ZH dZ,by simpa [World.setCell] using RO⟩
     case measure=>simp[intOf];omega
   ·have Ki:(decide ((q:Int)<32)&&decide ((q:Int)<(N:Int)-(k:Int)))=false:=by
     rw[Bool.and_eq_false_iff];by_cases h1:q<32
     ·exact .inr ZP
     ·exact .inl ZP
    have hlen:tl.length=n:=by rw[HT.out.1,gb.out]
    by_cases O3:q<32
    focus
     have lm:decide ((q:Int)<32)=true:=ZP;have eQ:decide ((q:Int)<(N:Int)-(k:Int))=false:=ZP
    rotate_left
    focus
     have lm:decide ((q:Int)<32)=false:=ZP
    rotate_left
    all_goals
     have HL:=ZH hlen;clear hlen ie Ki;go_wp2
     go_ret;exact⟨_,tl,k,q,rfl,by rw[HL.out];exact HO.out,HT.out,by rw[gb.out,←lH.out];omega,HK.out.below⟩
theorem Zkw{own:Own}{p:Nat}{fs:List Fl}(h:LinkAt own t w p fs)(hf:Fresh own w)(i:Int)(hi:i<0∨(fs.length:Int)<=i):
  Calls prog 58 #[P_ (some ⟨p,0,none⟩),I_ J_ i] w (Zx (.tuple #[.agg #[I_ J_ 0,S_ none 0 0],I_ J_ 24]) w):=by
 have cR:=(ZKr w).alloc (C_ #[I_ J_ 0,S_ none 0 0] 136);have HX:=ZH (ZBn w 136 #[I_ J_ 0,S_ none 0 0]);have jD:=h.upd (ZUb (T:=λ_=>False) cR.below hf) (λh=>h) (λh=>h);obtain⟨tD,HK⟩:=ZH2 (Zgw jD i hi) cR;clear h hf cR jD hi;go_enter func58,ntmps58;go_wp2_with fail;refine tD.out.mono ?_;rintro _ w1 ⟨rfl,cz⟩;have dI:=(HK.out.step cz).alloc (C_ #[I_ J_ 0,S_ none 0 0] 136);have j8:=(HX.out.ob cz).alloc (C_ #[I_ J_ 0,S_ none 0 0] 136);have sH:=(HX.out.ob cz).lt;obtain⟨W,hW⟩:∃W,W=w1.alloc (C_ #[I_ J_ 0,S_ none 0 0] 136):=⟨_,rfl⟩;rw[←hW]at dI j8;obtain⟨da,fJ,HW⟩:=ZH3 dI j8 hW;clear dI j8 hW cz
 go_wp2_with (first
  |(refine Zat rfl 136 _ rfl #[I_ J_ 0,S_ none 0 0] ZK ?_)
  |(refine wpList_store_row rfl 136 (.tmp 4) (.tmp 16) rfl w.heap.size #[I_ J_ 0,S_ none 0 0] rfl rfl 136 #[I_ J_ 0,S_ none 0 0] (by rw[←HW.out];exact fJ.out) ZK rfl (ZqA _ _ _ _) ?_
    rw[←HW.out]))
 refine bodyPost_ret (Zq rfl rfl rfl (run_loadVar_row _ _ _ _ _ _ _ (fJ.out.row _) underlying136 rfl ZK)) rfl ?_;exact⟨rfl,(da.out.row (ZL _) _).below⟩
abbrev ZaI(s:St):Array Value:=#[I_ J_ s.kind,I_ J_ s.r,I_ J_ s.ek,T_ s.key,I_ J_ s.label,T_ s.value,I_ J_ s.at_,I_ J_ s.bit,.int .u32 s.mask,I_ J_ s.keep]
abbrev Zl8(s:St):Value := .agg (ZaI s)
theorem Blk.aQ{g:Nat}{ty:TypeId}{v0 v1 v2 v3 v4 v5 v6 v7 v8 v9:Value}(h:Blk w g ty #[v0,v1,v2,v3,v4,v5,v6,v7,v8,v9]):w.cell? ⟨g,0,none⟩=some v0/\w.cell? ⟨g,1,none⟩=some v1/\w.cell? ⟨g,2,none⟩=some v2/\w.cell? ⟨g,3,none⟩=some v3/\w.cell? ⟨g,4,none⟩=some v4/\w.cell? ⟨g,5,none⟩=some v5/\w.cell? ⟨g,6,none⟩=some v6/\w.cell? ⟨g,7,none⟩=some v7/\w.cell? ⟨g,8,none⟩=some v8/\w.cell? ⟨g,9,none⟩=some v9 :=
 ⟨h.cell 0,h.cell 1,h.cell 2,h.cell 3,h.cell 4,h.cell 5,h.cell 6,h.cell 7,h.cell 8,h.cell 9⟩
def Zw(s:St)(b:Bool):St:=⟨s.kind,s.r,s.ek,s.key,s.label,s.value,s.at_,s.bit,s.mask,s.keep,b⟩
def Zeb(own:Own)(t p:Nat)(c:Cfg)(w:World)(s:St)(f:St->WS×Nat)(e:Ending)(w':World):Prop :=
 ∃tb,(s.kind≠7->tb=s.turned)/\e=R_ (I_ J_ (f (Zw s tb)).2)/\∃own',WorldAt own' t w' p c (f (Zw s tb)).1/\Upd (Zu t) own own' w w'
theorem ZnB{x:WS}{s:St}(h:s.at_<0∨(x.link.length:Int)<=s.at_):ZcN c x s=(x,24):=by
 unfold ZcN;split
 ·rfl
 ·rw[List.getElem?_eq_none ZO]
theorem Zd3{x:WS}{s:St}{i:Nat}{q:Nat×Frm}(hs:s.at_=i)(h:x.link[i]? = some q):ZcN c x s =
  if s.kind=6 then(⟨x.nodes,x.hub,ZdT x s q⟩,0)
  else if s.kind=7/\s.turned=true then(⟨x.nodes,x.hub,ZdT x s q⟩,ZfG c x q.1)
  else Zcg c ⟨x.nodes,x.hub,ZdT x s q⟩ q.1 q.2:=by
 unfold ZcN;rw[ZPn ZO,hs,Int.toNat_natCast,h]
theorem Zuu{l:List (Nat×Frm)}{i:Nat}{q:Nat×Frm}(h:l[i]? = some q):(flsOf l)[i]? = some ⟨q.1,Zn q.2⟩:=by
 unfold flsOf;rw[List.getElem?_map,h];rfl
theorem FlG.okF{B:Bd}{q:Nat×Frm}(h:FlG c B q):q.2.Ok:=by
 rcases h with ⟨_,h⟩|⟨_,h⟩ <;> exact h.ok
section
variable {own:Own}{t p m b:Nat}{w:World}{c:Cfg}{B:Bd}{x:WS}{s:St}
theorem Zez(ht:0<t)(h:WorldAt own t w p c x)(hf:Fresh own w)(hi:WInv c B m b x)(hc:c.Ok)(hm:m<=100)(hb:b<=700)(hs:StOk c s)(hk:4<=s.kind/\s.kind<=7):
  Calls prog 32 #[ptrV p,Zl8 s] w (Zeb own t p c w s (ZcN c x)):=by
 have h5:=hc.n5;have cP:=(ZW w.heap.size w).alloc (ZL _) (C_ (ZaI s) 36);have hX:=ZBn w 36 (ZaI s);have dt:Upd (λ_=>False) own own w (w.alloc (C_ (ZaI s) 36)):=ZUb cP hf;have rQ:=h.upd dt (λ_ _ h=>h) (λh=>h) h5;obtain⟨vn,hp,lp,cH,kQ,fw⟩:=rQ.link;obtain⟨c0,c1,c2⟩:=cH.three;obtain⟨x0,x1,x2,x3,x4,x5,x6,x7,x8,x9⟩:=hX.aQ;have fV:=hX.lt;have cW:=cH.lt;have Qu:Hid (own w.heap.size=0):=ZH (hf _ (ZL _));obtain⟨HU,HX,HI,HC,HW,HB,AW,jU,HS⟩:=ZH9 dt hX hi hc rQ cH kQ fw hs;clear h hf hi cP hX dt rQ cH kQ fw hs;obtain⟨kind,sr,ek,key,label,value,at_,bit,mask,keep,turned⟩:=s;simp only at hk;have hlen:x.link.length<=700:=ZT HI.out.len hb;have kN:(flsOf x.link).length=x.link.length:=by unfold flsOf;rw[List.length_map]
 by_cases j5:at_<0∨(x.link.length:Int)<=at_
 ·by_cases eM:kind=5
  focus
   subst eM;go_enter func32,ntmps32;go_wp2_with fail;generalize (w.alloc (C_ (ZaI ⟨5,sr,ek,key,label,value,_,bit,mask,keep,turned⟩) 36))=W0 at *;clear c0 c1 c2 x0 x1 x2 x3 x4 x5 x6 x7 x8 x9;refine(Zgw AW.out at_ (by rw[kN];exact j5)).mono ?_
  rotate_left
  focus
   have Dh:((kind:Int)==5)=false:=ZP;go_enter func32,ntmps32;go_wp2_with fail;generalize (w.alloc (C_ (ZaI ⟨kind,sr,ek,key,label,value,_,bit,mask,keep,turned⟩) 36))=W0 at *;clear c0 c1 c2 x0 x1 x2 x3 x4 x5 x6 x7 x8 x9;refine(Zkw AW.out HU.out.fresh at_ (by rw[kN];exact j5)).mono ?_
  rotate_left
  all_goals
   rintro _ w1 ⟨rfl,cz⟩;have cD:=cz.alloc cz.size (C_ #[I_ J_ 0,S_ none 0 0] 136);have gk:=ZH (HW.out.upd (ZUb cD HU.out.fresh) (T:=λ_=>False) (λ_ _ h=>h) (λh=>h) h5);have dA:Hid (Upd (Zu t) own own w _):=ZH ((HU.out.kept cD).mono λn h=>h.elim);clear cz cD;go_wp2
   go_ret;refine⟨turned,λ_=>rfl,?_⟩;rw[ZnB j5];exact⟨rfl,own,gk.out,dA.out⟩
 ·obtain⟨i,rfl⟩:∃i:Nat,at_=i:=⟨at_.toNat,ZO⟩;obtain⟨q,hq⟩:∃q,x.link[i]? = some q:=⟨_,ZX ZO⟩;have RL:=Zuu hq;have hg:=HI.out.link q (ZY hq);have lP:=Zdd hg.okF;obtain⟨HQ,HG⟩:=ZH2 hq hg;clear hq hg;by_cases eM:kind=5
  ·subst eM;have dd:((0:Int) != 0)=false:=rfl;go_enter func32,ntmps32;go_wp2_with fail;generalize (w.alloc (C_ (ZaI ⟨5,sr,ek,key,label,value,_,bit,mask,keep,turned⟩) 36))=W0 at *;clear c0 c1 c2 x0 x1 x2 x3 x4 x5 x6 x7 x8 x9;refine(Zlc AW.out i RL (by simp only;omega)).mono ?_;rintro _ w1 ⟨v,rfl,eG,cz⟩;obtain⟨av,kv,rfl,gF⟩:=Bytes.ae eG;have BL:=HX.out.ob cz;have cN:Upd (λ_=>False) own own W0 w1:=ZUb cz HU.out.fresh;have dD:=HW.out.upd cN (λ_ _ h=>h) (λh=>h) h5;have cM:Upd (λ_=>False) own own w1 (w1.alloc (C_ #[I_ J_ q.1,S_ av (Zn q.2).length kv] 136)):=ZUb ((ZW _ w1).alloc (ZL _) _) cN.fresh;have fq:=ZH (show WorldAt own t _ p c ⟨x.nodes,x.hub,ZdT x ⟨5,sr,ek,key,label,value,(i:Int),bit,mask,keep,turned⟩ q⟩ from dD.upd cM (λ_ _ h=>h) (λh=>h) h5);have dC:Hid (Upd (Zu t) own own w _):=ZH (((HU.out.trans cN).trans cM).mono λn h=>h.elim);have lG:=ZH (gF.kept ((ZW w1.heap.size w1).alloc (ZL _) (C_ #[I_ J_ q.1,S_ av (Zn q.2).length kv] 136)) (ZL _));obtain⟨x0,x1,x2,x3,x4,x5,x6,x7,x8,x9⟩:=BL.aQ;have Py:=BL.lt;have j8:=ZBn w1 136 #[I_ J_ q.1,S_ av (Zn q.2).length kv];clear eG cz gF BL cN dD cM;go_wp2_with fail;refine(ZfZ ht fq.out dC.out.fresh (HI.out.pick ⟨5,sr,ek,key,label,value,(i:Int),bit,mask,keep,turned⟩ q) HC.out hm hb HG.out lG.out).mono ?_;rintro _ w4 ⟨rfl,dX,mW,ei⟩;obtain⟨ru,gj⟩:=ZH2 mW (dC.out.trans ei);clear mW ei;go_wp2
   go_ret;refine⟨turned,(λ_=>rfl),?_⟩;rw[Zd3 (s:=Zw _ turned) rfl HQ.out,ZPn (by simp[Zw]),ZPn (by simp[Zw])];exact⟨rfl,dX,ru.out,gj.out⟩
  ·have Dh:((kind:Int)==5)=false:=ZP;have dd:((0:Int) != 0)=false:=rfl;go_enter func32,ntmps32;go_wp2_with fail;generalize (w.alloc (C_ (ZaI ⟨kind,sr,ek,key,label,value,_,bit,mask,keep,turned⟩) 36))=W0 at *;clear c0 c1 c2 x0 x1 x2 x3 x4 x5 x6 x7 x8 x9;refine(ZqP AW.out HU.out.fresh ZO (by rw[kN];omega) i RL (by simp only;omega)).mono ?_;rintro _ w1 ⟨v,rfl,eG,jE,cN⟩;obtain⟨av,kv,rfl,gF⟩:=Bytes.ae eG.row;have mu:=HX.out.upd cN (by rw[Qu.out];omega);have dD:=jU.out _ _ (x.link.eraseIdx i) h5 cN (by have h:=jE;unfold flsOf at h ⊢;rw[Zdp]at h;exact h);have V6:∀tb,ZdT x ⟨kind,sr,ek,key,label,value,(i:Int),bit,mask,keep,tb⟩ q=x.link.eraseIdx i:=λtb=>ZPn eM
   obtain⟨x0,x1,x2,x3,x4,x5,x6,x7,x8,x9⟩:=mu.aQ;have Py:=mu.lt;have dA:Hid (Upd (Zu t) own own w w1):=ZH ((HU.out.mono λn h=>h.elim).trans (cN.mono λn h=>⟨ZO,ZO⟩));have kK:=(ZW _ w1).alloc (ZL _) (C_ #[I_ J_ q.1,S_ av (Zn q.2).length kv] 136);have cM:Upd (λ_=>False) own own w1 (w1.alloc (C_ #[I_ J_ q.1,S_ av (Zn q.2).length kv] 136)):=ZUb kK dA.out.fresh;have vO:w.heap.size<=w1.heap.size:=dA.out.size;have C5:=cM.az (g:=w1.heap.size) (ZL _) (ZBn w1 136 #[I_ J_ q.1,S_ av (Zn q.2).length kv]).lt (t+5000);have dC:Hid (Upd (Zu t) own (own.at_ w1.heap.size (t+5000)) w _):=ZH (dA.out.trans (C5.mono λn h=>h.elim));obtain⟨fq,lG⟩:=ZH2 (show WorldAt (own.at_ w1.heap.size (t+5000)) t _ p c ⟨x.nodes,x.hub,ZdT x ⟨kind,sr,ek,key,label,value,(i:Int),bit,mask,keep,turned⟩ q⟩ from by rw[V6];exact dD.upd C5 (λ_ _ h=>h) (λh=>h) h5) (gF.kept kK (ZL _));have j8:=ZBn w1 136 #[I_ J_ q.1,S_ av (Zn q.2).length kv];have Vw:(own.at_ w1.heap.size (t+5000)) w1.heap.size=t+5000:=ZPp rfl;have qa:=ZH (mu.ob kK);clear eG jE cN gF mu dD kK cM C5;have oT:kind=4∨kind=6∨kind=7:=ZO;rcases oT with rfl|rfl|rfl
   ·go_wp2_with fail;refine(ZfZ ht fq.out dC.out.fresh (HI.out.pick ⟨4,sr,ek,key,label,value,(i:Int),bit,mask,keep,turned⟩ q) HC.out hm hb HG.out lG.out).mono ?_;rintro _ w4 ⟨rfl,dX,mW,ei⟩;obtain⟨ru,gj⟩:=ZH2 mW (dC.out.trans ei);clear mW ei;go_wp2
    go_ret;refine⟨turned,(λ_=>rfl),?_⟩;rw[Zd3 (s:=Zw _ turned) rfl HQ.out,ZPn (by simp[Zw]),ZPn (by simp[Zw])];exact⟨rfl,dX,ru.out,gj.out⟩
   ·go_wp2
    go_ret;refine⟨turned,λ_=>rfl,?_⟩;rw[Zd3 (s:=Zw _ turned) rfl HQ.out,ZPp (by simp[Zw])];exact⟨rfl,_,fq.out,dC.out⟩
   ·generalize (own.at_ w1.heap.size (t+5000))=cK at *;go_wp2_with fail;have lU:ZdL (Zn q.2):=Zha _;have eN:0<(Zn q.2).length:=by have:=lU.1;omega
    have cY:=Zgt HG.out.okF;refine(Zqf _ _ _ _ bit mask _ lG.out cY eN ZO HS.out.mask).mono ?_;rintro _ w3 ⟨v,tt,k,q',rfl,fd,Su,dr,cG⟩;obtain⟨fb,Ol⟩:∃fb,fb=w1.heap.size:=⟨_,rfl⟩;have sZ:=j8.ob cG;have de:=dC.out.kept cG;have mV:=fq.out.upd (ZUb cG dC.out.fresh) (T:=λ_=>False) (λ_ _ h=>h) (λh=>h) h5;have xO:=qa.out.ob cG;have ei:Upd (· = t+5000) cK cK w3 (w3.setCell ⟨w1.heap.size,1,none⟩ v):=(Upd.refl (· = t+5000) cK w3 de.fresh).setCell (p:=⟨w1.heap.size,1,none⟩) (λ_=>Vw) v;have mW:=mV.upd ei (λn h e=>by obtain⟨h1,h2⟩:=h;omega) ZO h5
    have iO:(w3.setCell ⟨w1.heap.size,1,none⟩ v).ownsRow _ 5 1 v tt.length (cells tt):=Zi fd (λg hg _=>Below.heap_setCell _ _ _ _ (λe=>by
     have h1:=(Zb fd hg).1;have h2:g=w1.heap.size:=e;rw[World.size_alloc]at h1
     omega))
    obtain⟨a3,k3,hv,Gt⟩:=Bytes.ae iO;subst hv;have nr:=xO.far (p:=⟨w1.heap.size,1,none⟩) (by simp only;omega) (S_ a3 tt.length k3);have Ap:=sZ.aj 1 (S_ a3 tt.length k3);have iD:Upd (Zu t) own cK w (w3.setCell ⟨w1.heap.size,1,none⟩ (S_ a3 tt.length k3)):=de.setCell (p:=⟨w1.heap.size,1,none⟩) (λh=>absurd h (by simp only;omega)) _;have ye:=sZ.frozen 1;have qW:=sZ.lt;obtain⟨y0,y1⟩:=sZ.two;obtain⟨fq,dC,lG,MU,cU,gA⟩:=ZH6 mW iD Gt Su dr cY;obtain⟨x0,x1,x2,x3,x4,x5,x6,x7,x8,x9⟩:=xO.aQ;clear sZ de mV xO ei mW fd iO Gt nr Ap iD cG Su dr cY j8 Ol;go_wp2_with fail;by_cases ho:ZdL tt
    ·have e:tt=Zn q.2:=Zn6 (l:=Zd (Zam q.2).length++Zam q.2) (λz hz=>gA.out z (List.mem_append_left _ hz)) MU.out cU.out HS.out.mask ho;subst e;refine(ZfZ ht fq.out dC.out.fresh (HI.out.pick ⟨7,sr,ek,key,label,value,(i:Int),bit,mask,keep,turned⟩ q) HC.out hm hb HG.out lG.out).mono ?_;rintro _ w4 ⟨rfl,dX,mW,ei⟩;obtain⟨ru,gj⟩:=ZH2 mW (dC.out.trans ei);clear mW ei;go_wp2
     go_ret;refine⟨false,(λh=>absurd rfl h),?_⟩;rw[Zd3 (s:=Zw _ false) rfl HQ.out,ZPn (by simp[Zw]),ZPn (by simp[Zw])];exact⟨rfl,dX,ru.out,gj.out⟩
    ·have IM:tt.length=(Zn q.2).length:=MU.out.1;refine(Zjv ht fq.out dC.out.fresh h5 lG.out MU.out.2.1 ZO ho).mono ?_;rintro _ w4 ⟨rfl,dX,mW,ei⟩;obtain⟨ru,gj⟩:=ZH2 mW (dC.out.trans ei);clear mW ei;go_wp2
     go_ret;refine⟨true,λh=>absurd rfl h,?_⟩;rw[Zd3 (s:=Zw _ true) rfl HQ.out,ZPn (by simp[Zw]),ZPp (by simp[Zw])];exact⟨rfl,dX,ru.out,gj.out⟩
end
end Go.Proofs.YtjkfognelhiepaaGreat
