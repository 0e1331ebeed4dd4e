import Derived.Laws.BitsAllLaws
import Derived.Laws.Bits64
import Derived.Below
import Derived.Laws.OwnMore
import Derived.Deep.AppendLies
import Derived.Deep.Draws
import Derived.Laws.Rows
import Derived.WalkKit
import Derived.Lib.Hide
import Derived.Maps.AppendAt
import Derived.RegionTactic
import Derived.OwnWalk
import Derived.Test.YtjkfognelhiepaaGreatRows
import Derived.StillTailTactics
import Derived.BigQuiet
import Derived.Deep.QuietTactic
import Derived.Laws.BytesArg
import Derived.Laws.MakeOwn
import Derived.Test.YtjkfognelhiepaaGreatProg
namespace Go.Proofs.YtjkfognelhiepaaGreat
open Go.RowKit _root_.Go.Proofs.Tryz
set_option maxRecDepth 100000
set_option maxHeartbeats 8000000
theorem ZF {p : Prop} (h : p := by simp only [maxLen]; omega) : p := h
theorem ZP {p : Prop} (h : p := by simp; omega) : p := h
theorem ZK {p : Prop} (h : p := by kernel_rfl) : p := h
theorem ZO {p : Prop} (h : p := by omega) : p := h
theorem ZN {p : Prop} (h : p := by go_num) : p := h
theorem ZJ {p : Prop} (h : p := by decide) : p := h
theorem ZM {p : Prop} (h : p := by simp) : p := h
theorem ZH {p : Prop} (h : p) : Hid p := Lib.hid h
theorem ZA {α : Type} {l : List α} {i : Nat} {a : α} : l.toArray.setIfInBounds i a = (l.set i a).toArray := List.setIfInBounds_toArray _ _ _
theorem ZB {α : Type} {x : α} {l : List α} {a : α} : (x :: l).set 0 a = a :: l := List.set_cons_zero
theorem ZC {α : Type} {x : α} {l : List α} {n : Nat} {a : α} : (x :: l).set (n + 1) a = x :: l.set n a := List.set_cons_succ
theorem ZL (n : Nat) : n ≤ n := Nat.le_refl n
theorem ZD {α : Type} {l : List α} {i : Nat} : l.toArray[i]? = l[i]? := List.getElem?_toArray
theorem ZE {α : Type} {a : α} {l : List α} : (a :: l)[0]? = some a := List.getElem?_cons_zero
theorem ZG {α : Type} {a : α} {l : List α} {i : Nat} : (a :: l)[i + 1]? = l[i]? := List.getElem?_cons_succ
theorem ZI {α : Type} {l m : List α} : (l ++ m).length = l.length + m.length := List.length_append
theorem ZW (B : Nat) (w : World) : Below B w w := Below.refl B w
theorem ZX {α : Type} {l : List α} {i : Nat} (h : i < l.length) : l[i]? = some l[i] := List.getElem?_eq_getElem h
theorem ZY {α : Type} {l : List α} {i : Nat} {a : α} (h : l[i]? = some a) : a ∈ l := List.mem_of_getElem? h
theorem ZZ {α : Type} {a : α} {l : List α} {i : Nat} : l[i]? = some a ↔ ∃ h : i < l.length, l[i] = a := List.getElem?_eq_some_iff
theorem ZV {α : Type} {l : List α} {i : Nat} : (l.take i).length = min i l.length := List.length_take
theorem ZU {α : Type} {l : List α} {i : Nat} (h : l.length ≤ i) : l.take i = l := List.take_of_length_le h
theorem ZR {n m k : Nat} (h : n < m) (g : m ≤ k) : n < k := Nat.lt_of_lt_of_le h g
theorem ZQ {α : Type} {x : Option α} : x.isSome = true ↔ ∃ a, x = some a := Option.isSome_iff_exists
theorem ZT {n m k : Nat} (h : n ≤ m) (g : m ≤ k) : n ≤ k := Nat.le_trans h g
theorem ZH2 {p0 p1 : Prop} (h0 : p0) (h1 : p1) : Hid p0 ∧ Hid p1 := ⟨h0, h1⟩
theorem ZH3 {p0 p1 p2 : Prop} (h0 : p0) (h1 : p1) (h2 : p2) : Hid p0 ∧ Hid p1 ∧ Hid p2 := ⟨h0, h1, h2⟩
theorem ZH4 {p0 p1 p2 p3 : Prop} (h0 : p0) (h1 : p1) (h2 : p2) (h3 : p3) : Hid p0 ∧ Hid p1 ∧ Hid p2 ∧ Hid p3 := ⟨h0, h1, h2, h3⟩
theorem ZH5 {p0 p1 p2 p3 p4 : Prop} (h0 : p0) (h1 : p1) (h2 : p2) (h3 : p3) (h4 : p4) : Hid p0 ∧ Hid p1 ∧ Hid p2 ∧ Hid p3 ∧ Hid p4 := ⟨h0, h1, h2, h3, h4⟩
theorem ZH6 {p0 p1 p2 p3 p4 p5 : Prop} (h0 : p0) (h1 : p1) (h2 : p2) (h3 : p3) (h4 : p4) (h5 : p5) : Hid p0 ∧ Hid p1 ∧ Hid p2 ∧ Hid p3 ∧ Hid p4 ∧ Hid p5 := ⟨h0, h1, h2, h3, h4, h5⟩
theorem ZH7 {p0 p1 p2 p3 p4 p5 p6 : Prop} (h0 : p0) (h1 : p1) (h2 : p2) (h3 : p3) (h4 : p4) (h5 : p5) (h6 : p6) : Hid p0 ∧ Hid p1 ∧ Hid p2 ∧ Hid p3 ∧ Hid p4 ∧ Hid p5 ∧ Hid p6 := ⟨h0, h1, h2, h3, h4, h5, h6⟩
theorem ZH8 {p0 p1 p2 p3 p4 p5 p6 p7 : Prop} (h0 : p0) (h1 : p1) (h2 : p2) (h3 : p3) (h4 : p4) (h5 : p5) (h6 : p6) (h7 : p7) : Hid p0 ∧ Hid p1 ∧ Hid p2 ∧ Hid p3 ∧ Hid p4 ∧ Hid p5 ∧ Hid p6 ∧ Hid p7 := ⟨h0, h1, h2, h3, h4, h5, h6, h7⟩
theorem ZH9 {p0 p1 p2 p3 p4 p5 p6 p7 p8 : Prop} (h0 : p0) (h1 : p1) (h2 : p2) (h3 : p3) (h4 : p4) (h5 : p5) (h6 : p6) (h7 : p7) (h8 : p8) : Hid p0 ∧ Hid p1 ∧ Hid p2 ∧ Hid p3 ∧ Hid p4 ∧ Hid p5 ∧ Hid p6 ∧ Hid p7 ∧ Hid p8 := ⟨h0, h1, h2, h3, h4, h5, h6, h7, h8⟩
structure Clk where
 c0:Nat
 c1:Nat
 c2:Nat
 c3:Nat
 c4:Nat
 deriving DecidableEq
def ZCz:Clk:=⟨0,0,0,0,0⟩
def Clk.get(c:Clk):Nat->Nat
 | 0=>c.c0
 | 1=>c.c1
 | 2=>c.c2
 | 3=>c.c3
 | 4=>c.c4
 | _=>0
def Clk.set(c:Clk):Nat->Nat->Clk
 | 0,n=>{ c with c0:=n }
 | 1,n=>{ c with c1:=n }
 | 2,n=>{ c with c2:=n }
 | 3,n=>{ c with c3:=n }
 | 4,n=>{ c with c4:=n }
 | _,_=>c
structure Ev where
 r:Nat
 n:Nat
 ctx:Clk
 height:Nat
 kind:Nat
 key:ByteArray
 label:Nat
 value:ByteArray
def KeyOk(k:ByteArray):Prop:=1<=k.size/\k.size<=8/\∀ i (h:i<k.size),97<=(k[i]).toNat/\(k[i]).toNat<=122
structure EditOk(kind:Nat)(key:ByteArray)(label:Nat)(value:ByteArray):Prop where
 kind1:1<=kind
 kind5:kind<=5
 key:KeyOk key
 short:kind<=2->label=0/\value=ByteArray.empty
 long:2<kind->label<=1/\1<=value.size/\value.size<=12
structure Ev.Ok(e:Ev):Prop where
 r:e.r<5
 n1:1<=e.n
 n2:e.n<=1048576
 h1:1<=e.height
 h2:e.height<=16777216
 ctx:∀ i,e.ctx.get i<=1048576
 own:e.ctx.get e.r+1=e.n
 edit:EditOk e.kind e.key e.label e.value
theorem Clk.aq(c:Clk){i:Nat}(h:5<=i):c.get i=0:=by
 match i,h with
 | _+5,_=>rfl
def Zd(n:Nat):List Nat:=if n<128 then [n] else(n%128+128)::Zd (n / 128)
 termination_by n
 decreasing_by omega
theorem Zdt{n:Nat}(h:n<128):Zd n=[n]:=by rw[Zd,if_pos h]
theorem ZdQ{n:Nat}(h:128<=n):Zd n=(n%128+128)::Zd (n / 128):=by rw[Zd,if_neg ZO]
theorem Z4(n:Nat):0<(Zd n).length:=by
 by_cases h:n<128
 ·rw[Zdt h];simp
 ·rw[ZdQ ZO];simp
theorem Z3:∀ (k n:Nat),n<128 ^ (k+1)->(Zd n).length<=k+1
 | 0,n,h=>by rw[Zdt (by simpa using h)];simp
 | k+1,n,h=>by
  by_cases h1:n<128
  ·rw[Zdt h1];simp
  ·rw[ZdQ ZO];have:=Z3 k (n / 128) (by rw[Nat.div_lt_iff_lt_mul ZO];rw[Nat.pow_succ] at h;exact h);simp;omega
theorem ZlD{n:Nat}(h:n<18446744073709551616):(Zd n).length<=10:=Z3 9 n ZO
theorem Zay:∀ (n:Nat),∀ x∈Zd n,x<256:=by
 intro n
 induction n using Nat.strongRecOn with
 | ind n ih =>
  intro x hx;by_cases h:n<128
  ·rw[Zdt h] at hx;simp at hx;omega
  ·rw[ZdQ ZO] at hx;rcases List.mem_cons.1 hx with rfl | hx
   ·omega
   ·exact ih (n / 128) ZO x hx
def val:List Nat->Nat
 | []=>0
 | c::l=>c%128+128*val l
theorem Ziq:∀ (l:List Nat) (c:Nat),val (l++[c])=val l+c%128*128 ^ l.length
 | [],c=>by simp[val]
 | x::l,c=>by
  have ih:=Ziq l c;simp only[List.cons_append,val,ih,List.length_cons,Nat.pow_succ,Nat.mul_add];have:128*(c%128*128 ^ l.length)=c%128*(128 ^ l.length*128):=by
   rw[Nat.mul_left_comm,Nat.mul_comm 128 (128 ^ _)]
  omega
theorem ZlW:∀ (l:List Nat),val l<128 ^ l.length
 | []=>by simp[val]
 | c::l=>by
  have ih:=ZlW l;simp only[val,List.length_cons,Nat.pow_succ];have:=Nat.mod_lt c (show 128>0 by omega);omega
theorem Zm8:∀ (n:Nat),val (Zd n)=n:=by
 intro n
 induction n using Nat.strongRecOn with
 | ind n ih =>
  by_cases h:n<128
  ·rw[Zdt h];simp[val];omega
  ·rw[ZdQ ZO,val,ih (n / 128) ZO];omega
def Zsg(l:List Nat):Prop:=∀ i,i+1<l.length->128<=l.getD i 0
theorem ZlE:∀ (n:Nat),Zsg (Zd n):=by
 intro n
 induction n using Nat.strongRecOn with
 | ind n ih =>
  intro i hi;by_cases h:n<128
  ·rw[Zdt h] at hi;simp at hi
  ·rw[ZdQ ZO] at hi ⊢
   cases i with
   | zero=>simp
   | succ i=>simp only[List.getD_cons_succ];exact ih (n / 128) ZO i (by simpa using hi)
theorem ZqL:∀ (n:Nat),(Zd n).getD ((Zd n).length-1) 0<128/\(1<(Zd n).length->(Zd n).getD ((Zd n).length-1) 0≠0):=by
 intro n
 induction n using Nat.strongRecOn with
 | ind n ih =>
  by_cases h:n<128
  ·rw[Zdt h];simp;exact h
  ·have hp:=Z4 (n / 128);obtain⟨h1,h2⟩:=ih (n / 128) ZO;rw[ZdQ ZO];have e:(Zd (n / 128)).length=(Zd (n / 128)).length-1+1:=ZO;simp only[List.length_cons,Nat.add_sub_cancel];rw[e,List.getD_cons_succ];refine⟨h1,λ _=>?_⟩;by_cases hl:1<(Zd (n / 128)).length
   ·exact h2 hl
   ·by_cases h3:n / 128<128
    ·rw[Zdt h3];simp;omega
    ·rw[ZdQ ZO] at hl;have:=Z4 (n / 128 / 128);simp at hl;rw[hl] at this;simp at this
def Zc0(l:List Nat):Nat × Nat × Nat :=
 let k:=l.findIdx (λ c=>decide (c<128))
 if k=l.length then(0,0,if l.length=10 then 3 else 2)
 else if (0<k/\l.getD k 0=0)∨(k=9/\1<l.getD k 0) then(0,0,3)
 else(val (l.take (k+1)),k+1,0)
theorem ZoW{l:List Nat}(h:∀ j,j<l.length->128<=l.getD j 0):l.findIdx (λ c=>decide (c<128))=l.length:=by
 rw[List.findIdx_eq_length];intro x hx;obtain⟨j,hj,rfl⟩:=List.getElem_of_mem hx;have:=h j hj;simp[List.getD,hj] at this;simpa using this
theorem ZjX{l:List Nat}{k:Nat}(hk:k<l.length)(h:∀ j,j<k->128<=l.getD j 0)(hc:l.getD k 0<128):l.findIdx (λ c=>decide (c<128))=k:=by
 rw[List.findIdx_eq hk];refine⟨by simpa [List.getD,hk] using hc,λ j hj=>?_⟩;have:=h j hj;have E4:j<l.length:=ZO;simp[List.getD,E4] at this;simpa using this
theorem ZeU{l:List Nat}(h:∀ j,j<l.length->128<=l.getD j 0):Zc0 l=(0,0,if l.length=10 then 3 else 2):=by
 simp only[Zc0,ZoW h,if_true]
theorem Zkq{l:List Nat}{k:Nat}(hk:k<l.length)(h:∀ j,j<k->128<=l.getD j 0)(hc:l.getD k 0<128)(hb:(0<k/\l.getD k 0=0)∨(k=9/\1<l.getD k 0)):Zc0 l=(0,0,3):=by
 simp only[Zc0,ZjX hk h hc];rw[if_neg ZO,if_pos hb]
theorem Zgt{l:List Nat}{k:Nat}(hk:k<l.length)(h:∀ j,j<k->128<=l.getD j 0)(hc:l.getD k 0<128)(hb:¬ ((0<k/\l.getD k 0=0)∨(k=9/\1<l.getD k 0))):Zc0 l=(val (l.take (k+1)),k+1,0):=by
 simp only[Zc0,ZjX hk h hc];rw[if_neg ZO,if_neg hb]
theorem Zjd{l:List Nat}{k:Nat}(h:k<l.length):l.take (k+1)=l.take k++[l.getD k 0]:=by
 rw[List.take_succ_eq_append_getElem h];simp[List.getD,h]
theorem ZgG{l:List Nat}{k:Nat}(h:k<l.length):val (l.take (k+1))=val (l.take k)+l.getD k 0%128*128 ^ k:=by
 rw[Zjd h,Ziq,ZV];congr 3;omega
theorem Zm3(k:Nat):128 ^ k=2 ^ (7*k):=by rw[Nat.pow_mul]
theorem ZsC{X d k:Nat}(hX:X<128 ^ k):X ||| d*128 ^ k=X+d*128 ^ k:=by
 rw[Zm3] at *;rw[Nat.or_comm,Nat.mul_comm d,←Nat.two_pow_add_eq_or_of_lt hX d,Nat.add_comm]
theorem ZqI{k:Nat}(hk:k<=9):128 ^ k<=9223372036854775808:=by
 have h:(128:Nat) ^ k<=128 ^ 9:=Nat.pow_le_pow_right ZO hk;simpa using h
theorem Zoj{d k:Nat}(h:(k<=8/\d<128)∨(k=9/\d<=1)):d*128 ^ k<18446744073709551616:=by
 rcases h with ⟨hk,hd⟩|⟨rfl,hd⟩
 ·have h1:(128:Nat) ^ k<=128 ^ 8:=Nat.pow_le_pow_right ZO hk;have h2:d*128 ^ k<=127*128 ^ 8:=Nat.mul_le_mul ZO h1;omega
 ·omega
theorem Zht{X d k:Nat}(hX:X<128 ^ k)(h:(k<=8/\d<128)∨(k=9/\d<=1)):bits .or .u64 (X:Int) (IntKind.u64.wrap ((d:Int)*2 ^ (7*k)))=((X+d*128 ^ k:Nat):Int):=by
 have hf:=Zoj h;have e:(d:Int)*2 ^ (7*k)=((d*128 ^ k:Nat):Int):=by rw[Zm3];simp
 have hk:k<=9:=ZO;have hp:=ZqI hk;rw[e,IntKind.wrap_u64,Int.emod_eq_of_lt ZO ZO,u64_or_nat _ _ ZO hf,ZsC hX]
theorem Zm2(X:Nat)(y:Int):∃ Z:Nat,bits .or .u64 (X:Int) (IntKind.u64.wrap y)=(Z:Int):=by
 have h:0<=bits .or .u64 (X:Int) (IntKind.u64.wrap y):=by
  show 0<=IntKind.u64.wrap _
  rw[IntKind.wrap_u64];omega
 exact Int.eq_ofNat_of_zero_le h
theorem ZcE(n:Nat)(rest:List Nat)(hn:n<18446744073709551616):Zc0 ((Zd n++rest).take 10)=(n,(Zd n).length,0):=by
 have hp:=Z4 n;have ua:=ZlD hn;have A0:=ZqL n;have gB:=ZlE n;have g:∀ j,j<(Zd n).length->((Zd n++rest).take 10).getD j 0=(Zd n).getD j 0:=by
  intro j hj;have Oa:j<10:=ZO;simp[List.getD,Oa,List.getElem?_append,hj]
 have hlen:(Zd n).length-1<((Zd n++rest).take 10).length:=by rw[ZV,ZI];omega
 have e1:(Zd n).length-1+1=(Zd n).length:=ZO;have e2:((Zd n++rest).take 10).take (Zd n).length=Zd n:=by
  rw[List.take_take,Nat.min_eq_left ua,List.take_left]
 have key:=Zgt (l:=(Zd n++rest).take 10) (k:=(Zd n).length-1) hlen (λ j hj=>by rw[g j ZO];exact gB j ZO) (by rw[g _ ZO];exact A0.1) (by
  rw[g _ ZO];rintro(⟨h1,h2⟩|⟨h1,h2⟩)
  ·exact A0.2 ZO h2
  ·have hv:=Zm8 n;have hs:Zd n=(Zd n).take ((Zd n).length-1)++[(Zd n).getD ((Zd n).length-1) 0]:=by
    rw[←Zjd ZO,e1,List.take_length]
   rw[hs,Ziq,ZV,Nat.min_eq_left ZO] at hv;have h3:(Zd n).getD ((Zd n).length-1) 0%128=(Zd n).getD ((Zd n).length-1) 0:=Nat.mod_eq_of_lt A0.1;rw[h3,h1] at hv;rw[h1] at h2;generalize (Zd n).getD 9 0=c at hv h2;have:c*128 ^ 9>=2*128 ^ 9:=Nat.mul_le_mul_right _ ZO
   omega)
 rw[e1,e2,Zm8] at key;exact key
def bs(s:ByteArray):List Nat:=s.data.toList.map UInt8.toNat
theorem Zc2(s:ByteArray):(bs s).length=s.size:=by simp[bs]
theorem ZkX(s:ByteArray):∀ x∈bs s,x<256:=by
 intro x hx;simp only[bs,List.mem_map] at hx;obtain⟨y,_,rfl⟩:=hx;exact y.toNat_lt
def Zam(c:Clk)(r:Nat):Nat->List Nat
 | 0=>[]
 | k+1=>Zam c r k++if k=r then [] else Zd (c.get k)
def ZbK(e:Ev):List Nat:=if 2<e.kind then e.label::(e.value.size::bs e.value) else []
def evBytes(e:Ev):List Nat:=[e.kind,e.r]++Zd e.n++Zam e.ctx e.r 5++Zd e.height++(e.key.size::bs e.key)++ZbK e
theorem Zdh{n:Nat}(h:n<=16777216):(Zd n).length<=4:=Z3 3 n ZO
theorem ZgV{c:Clk}(r:Nat)(h:∀ i,c.get i<=1048576):∀ k,(Zam c r k).length<=3*k
 | 0=>by simp[Zam]
 | k+1=>by
  have:=ZgV r h k;have h1:=Z3 2 (c.get k) (by have:=h k;omega);simp only[Zam,ZI];split <;> simp <;> omega
theorem ZhG(c:Clk)(r:Nat):∀ k,∀ x∈Zam c r k,x<256
 | 0,x,h=>by simp[Zam] at h
 | k+1,x,h=>by
  simp only[Zam,List.mem_append] at h;rcases h with h | h
  ·exact ZhG c r k x h
  ·split at h
   ·simp at h
   ·exact Zay _ x h
theorem Zcz{e:Ev}(h:e.Ok):(evBytes e).length<=60:=by
 have h1:=Zdh (show e.n<=16777216 by have:=h.n2;omega);have h2:=Zdh h.h2;have h3:=ZgV e.r h.ctx 5;have h4:=h.edit.key.2.1;have h5:(ZbK e).length<=14:=by
  unfold ZbK;split
  ·have:=(h.edit.long (by assumption)).2.2;simp[Zc2];omega
  ·simp
 simp only[evBytes,ZI,List.length_cons,List.length_nil,Zc2];omega
theorem Zku{e:Ev}(h:e.Ok):∀ x∈evBytes e,x<256:=by
 have h1:=h.edit.kind5;have h2:=h.r;have h3:=h.edit.key.2.1;intro x hx;simp only[evBytes,List.mem_append,List.mem_cons,List.not_mem_nil,or_false] at hx;rcases hx with ((((hx | hx) | hx) | hx) | hx) | hx
 ·omega
 ·exact Zay _ _ hx
 ·exact ZhG _ _ _ _ hx
 ·exact Zay _ _ hx
 ·rcases hx with hx | hx
  ·omega
  ·exact ZkX _ _ hx
 ·unfold ZbK at hx;split at hx
  ·have:=h.edit.long (by assumption);simp only[List.mem_cons] at hx;rcases hx with hx | hx | hx
   ·omega
   ·omega
   ·exact ZkX _ _ hx
  ·simp at hx
section
theorem Ze4(a:Addr)(n:Nat):(a.add n).block=a.block:=by unfold Addr.add;split <;> rfl
theorem Zne(a:Addr)(i j:Nat):(a.add i).add j=a.add (i+j):=by
 unfold Addr.add;by_cases hi:i=0 <;> by_cases hj:j=0 <;> simp[hi,hj,Nat.add_assoc]
def Reads(w:World)(B size:Nat)(A:Option Addr)(n:Nat)(xs:List Value):Prop :=
 xs.length=n*size/\(0<n->∃ ad,A=some ad/\ad.block<B/\∀ j u,xs[j]? = some u->w.cell? (ad.add j)=some u)
section
variable {w w':World}{B B' size n:Nat}{A:Option Addr}{xs:List Value}
theorem Reads.none_:Reads w B size A 0 []:=⟨ZM,λ h=>absurd h ZO⟩
theorem Reads.keep(h:Reads w B size A n xs)(hk:∀ p:Addr,p.block<B->w'.cell? p=w.cell? p):Reads w' B size A n xs :=
 ⟨h.1,λ hn=>by
  obtain⟨ad,e,hb,hc⟩:=h.2 hn
  exact⟨ad,e,hb,λ j u hu=>(hk _ (by rw[Ze4];exact hb)).trans (hc j u hu)⟩⟩
theorem Reads.below(h:Reads w B size A n xs)(hb:Below B w w'):Reads w' B size A n xs:=h.keep λ _ hp=>hb.cell hp
theorem Reads.alloc(h:Reads w B size A n xs)(hB:B<=w.heap.size)(o:Obj):Reads (w.alloc o) B size A n xs:=h.keep λ p hp=>World.cell?_alloc_lt w o p ZO
theorem Reads.ab{base:Nat}{e:TypeId}{c:Nat}(h:w.ownsRow base e size (.slice A n c) n xs):Reads w w.heap.size size A n xs:=by
 refine⟨h.1,λ hn=>?_⟩;obtain⟨g,cap,hv,_,ce⟩:=h.form hn;have hA:A=some ⟨g,0,none⟩:=by injection hv
 subst hA;exact⟨_,rfl,ce,h.cells (g:=g) rfl⟩
end
def Blk(w:World)(g:Nat)(t:TypeId)(cs:Array Value):Prop:=w.heap[g]? = some (.cells cs t (0,0))
section
variable {w w':World}{g:Nat}{t:TypeId}{cs:Array Value}
theorem Blk.lt(h:Blk w g t cs):g<w.heap.size:=by
 rcases Nat.lt_or_ge g w.heap.size with ce | my
 ·exact ce
 ·unfold Blk at h;rw[Array.getElem?_eq_none my] at h;cases h
theorem Blk.cell(h:Blk w g t cs)(i:Nat):w.cell? ⟨g,i,none⟩=cs[i]? := cell_of_row w g i cs t (0,0) h
theorem Blk.frozen(h:Blk w g t cs)(i:Nat):w.frozen? ⟨g,i,none⟩=false:=by
 unfold Blk at h;simp[World.frozen?,h]
theorem Blk.new(w:World)(t:TypeId)(cs:Array Value):Blk (w.alloc (.cells cs t)) w.heap.size t cs:=heap_alloc_new w _
abbrev ZBn:=@Blk.new
theorem Blk.drew(h:Blk w g t cs):Blk w.drew g t cs:=h
theorem Blk.drewN(h:Blk w g t cs)(n:Nat):Blk (w.drewN n) g t cs:=h
theorem Blk.alloc(h:Blk w g t cs)(o:Obj):Blk (w.alloc o) g t cs:=(Below.heap_alloc w o g h.lt).trans h
theorem Blk.ai(h:Blk w g t cs)(i:Nat)(u:Value):Blk (w.setCell ⟨g,i,none⟩ u) g t (cs.setIfInBounds i u):=by
 unfold Blk at h ⊢;simp[World.setCell,Array.getElem?_modify,h]
theorem Blk.far(h:Blk w g t cs){p:Addr}(hp:g≠p.block)(u:Value):Blk (w.setCell p u) g t cs:=(Below.heap_setCell w p u g hp).trans h
theorem Blk.below{B:Nat}(h:Blk w g t cs)(hb:Below B w w')(hg:g<B):Blk w' g t cs:=(hb.block g hg).trans h
theorem Blk.grown{row:Option Nat}(h:Blk w g t cs)(hb:w.grownBy w' row)(hg:some g≠row):Blk w' g t cs:=(hb.block g h.lt hg).trans h
theorem Blk.bN{g':Nat}{t':TypeId}{vM:Array Value}(h:Blk w g t cs)(h':Blk w g' t' vM)(dz:t≠t'):g≠g':=by
 rintro rfl;unfold Blk at h h';rw[h] at h';injection h' with h';injection h' with _ ht;exact dz ht
theorem Zo{base:Nat}{e:TypeId}{size n:Nat}{v:Value}{xs:List Value}(h:w.ownsRow base e size v n xs)(hg:Blk w g t cs)(dz:e≠t):v.ownBlock≠some g:=by
 rcases h.2 with ⟨rfl,_⟩|⟨g',cap,cur,rfl,_,hh,_⟩
 ·simp[Value.ownBlock]
 ·intro he;have:g'=g:=by simpa [Value.ownBlock] using he
  subst this;exact Blk.bN (t:=e) hh hg dz rfl
end
theorem Znh{W w1:World}(hb:Below W.heap.size W w1):(∀ b o,b<W.heap.size->w1.cell? ⟨b,o,none⟩=W.cell? ⟨b,o,none⟩)/\(∀ b o,b<W.heap.size->w1.frozen? ⟨b,o,none⟩=W.frozen? ⟨b,o,none⟩) :=
 ⟨λ b o h=>hb.cell (p:=⟨b,o,none⟩) h,λ b o h=>hb.frozen (p:=⟨b,o,none⟩) h⟩
structure Kept(B:Nat)(w w':World):Prop where
 below:Below B w w'
 le:B<=w'.heap.size
theorem Kept.start{w w':World}(h:Below w.heap.size w w'):Kept w.heap.size w w':=⟨h,h.size⟩
theorem Kept.drew{B:Nat}{w w':World}(h:Kept B w w'):Kept B w w'.drew:=⟨h.below.drew,h.le⟩
theorem Kept.drewN{B:Nat}{w w':World}(h:Kept B w w')(n:Nat):Kept B w (w'.drewN n):=⟨⟨h.below.os,h.below.tape,h.below.output,h.below.size,h.below.block⟩,h.le⟩
theorem Kept.alloc{B:Nat}{w w':World}(h:Kept B w w')(o:Obj):Kept B w (w'.alloc o):=⟨h.below.alloc h.le o,by have:=h.le;simp;omega⟩
theorem Kept.setCell{B:Nat}{w w':World}(h:Kept B w w'){p:Addr}(hp:B<=p.block)(u:Value):Kept B w (w'.setCell p u):=⟨h.below.setCell hp u,by have:=h.le;simpa [World.setCell] using this⟩
theorem Kept.step{B:Nat}{w w' ze:World}(h:Kept B w w')(g:Below w'.heap.size w' ze):Kept B w ze:=⟨h.below.trans (g.mono h.le),ZT h.le g.size⟩
theorem Kept.trans{B B':Nat}{w w' ze:World}(h:Kept B w w')(g:Kept B' w' ze)(hB:B<=B'):Kept B w ze:=⟨h.below.trans (g.below.mono hB),ZT hB g.le⟩
theorem Kept.cells{B:Nat}{w w':World}(h:Kept B w w'):∀ b o,b<B->w'.cell? ⟨b,o,none⟩=w.cell? ⟨b,o,none⟩:=λ b o hb=>h.below.cell (p:=⟨b,o,none⟩) hb
theorem Zr8{k:IntKind}{a b:Int}(h:a=b):Ending.returned (.int k a) = .returned (.int k b):=by rw[h]
end
section
section
variable {P:Program}(w:World)
theorem ZhB(base:Nat)(t ty e:TypeId)(i:TypeInfo)(size:Nat)(ht:P.underlying t=some (.slice e))(hi:P.info? e=some i)
  (v:Value) (n:Nat) (xs:List Value) (cT:w.ownsRow base e size v n xs) (c:Nat):(Builtin.append_ #[t,t] ty #[v,.slice none 0 c]).run P w = .ok v w:=by
 rcases cT.2 with ⟨rfl,rfl⟩|⟨g,cap,cur,rfl,_,_,eH,_⟩
 ·simp[Builtin.append_,run_underlying ht,sizeOf,typeInfo,hi,Builtin.lenOf,Builtin.firstCells]
 ·simp[Builtin.append_,run_underlying ht,sizeOf,typeInfo,hi,Builtin.lenOf,Builtin.firstCells,eH,storeCells]
theorem ZjH(base:Nat)(t ty e:TypeId)(i:TypeInfo)(z:Value)(size bytes:Nat)(ht:P.underlying t=some (.slice e))(hi:P.info? e=some i)(hz:i.zero=some z)
  (ku:i.size=size) (fX:i.bytes=bytes) (Gt:z.cells.size=size) (dL:0<size)
  (v:Value) (n:Nat) (xs:List Value) (cT:w.ownsRow base e size v n xs)
  (B:Nat) (A:Option Addr) (m c:Nat) (news:List Value) (hr:Reads w B size A m news) (h1:∀ u∈news,u.oneCell'=true)
  (BW:n+m<=maxLen) (jP:(n+m)*bytes<=140737488355328) (ot:base<=w.heap.size) :
  ∃ v' w',(Builtin.append_ #[t,t] ty #[v,.slice A m c]).run P w = .ok v' w'/\w'.ownsRow base e size v' (n+m) (xs++news)/\w.grownBy w' v.ownBlock /\
   (v'.ownBlock=v.ownBlock∨v'.ownBlock=some w.heap.size):=by
 rcases A with _ | ad
 ·have hm:m=0:=by
   rcases Nat.eq_zero_or_pos m with h0 | h0
   ·exact h0
   ·obtain⟨ad,h,_⟩:=hr.2 h0
    cases h
  subst hm;have hn:news=[]:=List.eq_nil_of_length_eq_zero (by simpa using hr.1);subst hn;exact⟨v,w,ZhB w base t ty e i size ht hi v n xs cT c,by simpa using cT,World.grownBy.refl w _,.inl rfl⟩
 ·have lB:∀ j u,news[j]? = some u->w.cell? (ad.add j)=some u:=by
   intro j u hu;rcases Nat.eq_zero_or_pos m with h0 | h0
   ·subst h0;have hn:news=[]:=List.eq_nil_of_length_eq_zero (by simpa using hr.1);subst hn;simp at hu
   ·obtain⟨ad',h,_,hc⟩:=hr.2 h0;injection h with h;subst h;exact hc j u hu
  obtain⟨v',w',em,h2,h3,_,h5⟩:=run_append_own_at (P:=P) w base t ty e i z size bytes ht hi hz ku fX Gt dL v n xs cT ad m c news hr.1 lB h1 BW jP ot;exact⟨v',w',em,h2,h3,h5⟩
theorem ZaT{o:Oper}{a:Act}{K:Act->World->Prop}{Q:Exit->Act->World->Prop}(s x:Operand)(t:TypeId)
  (ho:o.op = .call { callee := .builtin .append,args:=#[s,x],argTypes:=#[t,t] })
  (base:Nat) (e:TypeId) (i:TypeInfo) (z:Value) (size bytes:Nat) (ht:P.underlying t=some (.slice e)) (hi:P.info? e=some i) (hz:i.zero=some z)
  (ku:i.size=size) (fX:i.bytes=bytes) (Gt:z.cells.size=size) (dL:0<size)
  (v:Value) (n:Nat) (xs:List Value) (hs:a.eval s=v) (cT:w.ownsRow base e size v n xs)
  (B:Nat) (A:Option Addr) (m c:Nat) (news:List Value) (hx:a.eval x = .slice A m c) (hr:Reads w B size A m news) (h1:∀ u∈news,u.oneCell'=true)
  (BW:n+m<=maxLen) (jP:(n+m)*bytes<=140737488355328) (ot:base<=w.heap.size)
  (h:∀ v' w',w'.ownsRow base e size v' (n+m) (xs++news)->w.grownBy w' v.ownBlock->(v'.ownBlock=v.ownBlock∨v'.ownBlock=some w.heap.size)->K (a.put o.dst v') w'):o.wp P a w K Q:=by
 obtain⟨v',w',em,h2,h3,h4⟩:=ZjH (P:=P) w base t o.type e i z size bytes ht hi hz ku fX Gt dL v n xs cT B A m c news hr h1 BW jP ot;unfold Oper.wp execOp;simp only[ho,resolve,invoke,builtin,Sem.run_bind,Sem.run_pure,Result.andThen_ok,List.map_toArray,List.map_cons,List.map_nil,hs,hx,em];exact h v' w' h2 h3 h4
theorem Zc{cu:Array Oper}{rest:List Oper}{o:Oper}{a:Act}{Q:Exit->Act->World->Prop}(qv:o.guard=none)(s x:Operand)(t:TypeId)
  (ho:o.op = .call { callee := .builtin .append,args:=#[s,x],argTypes:=#[t,t] })
  (base:Nat) (e:TypeId) (i:TypeInfo) (z:Value) (size bytes:Nat) (ht:P.underlying t=some (.slice e)) (hi:P.info? e=some i) (hz:i.zero=some z)
  (ku:i.size=size) (fX:i.bytes=bytes) (Gt:z.cells.size=size) (dL:0<size)
  (v:Value) (n:Nat) (xs:List Value) (hs:a.eval s=v) (cT:w.ownsRow base e size v n xs)
  (B:Nat) (A:Option Addr) (m c:Nat) (news:List Value) (hx:a.eval x = .slice A m c) (hr:Reads w B size A m news) (h1:∀ u∈news,u.oneCell'=true)
  (BW:n+m<=maxLen) (jP:(n+m)*bytes<=140737488355328) (ot:base<=w.heap.size)
  (h:∀ v' w',w'.ownsRow base e size v' (n+m) (xs++news)->w.grownBy w' v.ownBlock->(v'.ownBlock=v.ownBlock∨v'.ownBlock=some w.heap.size)->wpList P cu Q rest (a.put o.dst v') w'):wpList P cu Q (o::rest) a w :=
 wpList_plain qv λ _ hK=>ZaT w s x t ho base e i z size bytes ht hi hz ku fX Gt dL v n xs hs cT B A m c news hx hr h1 BW jP ot λ v' w' h2 h3 h4=>hK _ _ (h v' w' h2 h3 h4)
end
end
abbrev i64(n:Nat):Value := .int .i64 (n:Int)
abbrev ZeZ(kind:Nat)(key:ByteArray)(label:Nat)(value:ByteArray):Value := .agg #[.int .i64 kind,.string key,.int .i64 label,.string value]
abbrev Za2(c:Clk):Value := .agg #[.int .i64 c.c0,.int .i64 c.c1,.int .i64 c.c2,.int .i64 c.c3,.int .i64 c.c4]
abbrev Zaa(e:Ev):Value := .agg #[.int .i64 e.r,.int .i64 e.n,.int .i64 e.ctx.c0,.int .i64 e.ctx.c1,.int .i64 e.ctx.c2,.int .i64 e.ctx.c3,.int .i64 e.ctx.c4,.int .i64 e.height,.int .i64 e.kind,.string e.key,.int .i64 e.label,.string e.value]
def Zv(v:Value)(w:World)(e:Ending)(w':World):Prop:=e = .returned v/\Below w.heap.size w w'
theorem Zgx(n lo hi:Int)(w:World)(h1:lo<=n)(h2:n<=hi):
  Calls prog 190 #[.int .i64 n,.int .i64 lo,.int .i64 hi] w λ e w'=>e = .returned (.bool true)/\w=w':=by
 go_enter func190,ntmps190;go_wp2
 go_ret;exact⟨rfl,rfl⟩
theorem Zll(k:ByteArray)(w:World)(h:KeyOk k):Calls prog 147 #[.string k] w (Zv (.int .i64 0) w):=by
 obtain⟨h1,h8,hk⟩:=h;have HK:=ZH hk;clear hk;go_enter func147,ntmps147;go_wp2_with fail;go_loopw [4] (λ _ wr=>∃ pos:Nat,pos<=k.size/\wr=w.iter k pos) (λ _ wr=>k.size-wr.iterPos w.heap.size)
 case atStart=>exact⟨0,ZO,rfl⟩
 case round =>
  obtain⟨pos,hp,rfl⟩:=hrel;by_cases ce:pos<k.size
  ·have hc:=HK.out pos ce;have l8:=λ ty=>run_next_ascii (P:=prog) w k pos ty ce ZO
   have ha:(97:Int)<=((k[pos]).toNat:Int):=ZO;have hb:((k[pos]).toNat:Int)<=122:=ZO;go_wp2
   go_roundw
   case rel=>exact⟨pos+1,ZO,rfl⟩
   case measure=>simp[World.iterPos,World.iter_heap];omega
  ·obtain rfl:pos=k.size:=ZO;have l8:=λ ty=>run_next_end (P:=prog) w k k.size ty ZO
   go_wp2
   go_ret;exact⟨rfl,(ZW _ _).alloc (ZL _) _⟩
theorem Zqr(n:Nat)(w:World)(h:n<=1):Calls prog 148 #[.int .i64 n] w λ e w'=>e = .returned (.int .i64 0)/\w=w':=by
 go_enter func148,ntmps148;go_wp2
 go_ret;exact⟨rfl,rfl⟩
theorem ZlX(v:ByteArray)(w:World)(h1:1<=v.size)(h2:v.size<=12):Calls prog 149 #[.string v] w λ e w'=>e = .returned (.int .i64 0)/\w=w':=by
 go_enter func149,ntmps149;go_wp2
 go_ret;exact⟨rfl,rfl⟩
theorem ZmT(kind:Nat)(key:ByteArray)(label:Nat)(value:ByteArray)(w:World)(h:EditOk kind key label value):
  Calls prog 106 #[ZeZ kind key label value] w (Zv (.int .i64 0) w):=by
 obtain⟨h1,h5,hk,hs,hl⟩:=h;have HK:=ZH hk;clear hk;rcases Nat.lt_or_ge 2 kind with h2 | h2
 ·obtain⟨l1,l2,l3⟩:=hl h2;have n1:((kind:Int)==1)=false:=ZP;have n2:((kind:Int)==2)=false:=ZP;clear hs hl;go_enter func106,ntmps106;go_wp2_with fail;refine(Zll key _ HK.out).mono ?_;rintro e w1 ⟨rfl,bS⟩;obtain⟨hc,hf⟩:=Znh bS;have dE:Kept w.heap.size w w1:=((Kept.start (ZW w.heap.size w)).alloc _).step bS;go_wp2_with fail;refine(Zqr label _ l1).mono ?_;rintro e w2 ⟨rfl,rfl⟩;go_wp2_with fail;refine(ZlX value _ l2 l3).mono ?_;rintro e w2 ⟨rfl,rfl⟩;go_wp2
  go_ret;exact⟨rfl,dE.below⟩
 ·obtain⟨rfl,rfl⟩:=hs h2;clear hl hs;rcases(by omega:kind=1∨kind=2) with rfl | rfl
  all_goals
   go_enter func106,ntmps106;go_wp2_with fail;refine(Zll key _ HK.out).mono ?_;rintro e w1 ⟨rfl,bS⟩;obtain⟨hc,hf⟩:=Znh bS;have dE:Kept w.heap.size w w1:=((Kept.start (ZW w.heap.size w)).alloc _).step bS;go_wp2
   go_ret;exact⟨rfl,dE.below⟩
theorem ZsT{α : Type}(f:Nat -> α)(c:Clk)(i:Nat)(hi:i<5):[f c.c0,f c.c1,f c.c2,f c.c3,f c.c4][i]? = some (f (c.get i)):=by
 match i,hi with
 | 0,_=>rfl
 | 1,_=>rfl
 | 2,_=>rfl
 | 3,_=>rfl
 | 4,_=>rfl
theorem Zsm(w:World)(e:Ev)(i:Nat)(hi:i<5):(w.alloc (.cells #[.int .i64 e.r,.int .i64 e.n,.int .i64 e.ctx.c0,.int .i64 e.ctx.c1,.int .i64 e.ctx.c2,.int .i64 e.ctx.c3,.int .i64 e.ctx.c4,.int .i64 e.height,.int .i64 e.kind,.string e.key,.int .i64 e.label,.string e.value] 89)).cell? ⟨w.heap.size,2+i,none⟩=some (i64 (e.ctx.get i)):=by
 rw[(ZBn w 89 _).cell]
 match i,hi with
 | 0,_=>rfl
 | 1,_=>rfl
 | 2,_=>rfl
 | 3,_=>rfl
 | 4,_=>rfl
theorem Zrt:(prog.info? 3).map (λ i=>(i.zero,i.size,i.bytes))=some (some (.int .i64 0),1,8):=ZK
theorem Zah(c:Clk)(k:Nat)(hk:k<5)(w:World):(Instr.index 44 (Za2 c) (.int .i64 (k:Int))).run prog w = .ok (i64 (c.get k)) w:=by
 obtain⟨i0,hi,cM,cG,cK⟩:=info_parts Zrt;have hu:=run_underlying (w:=w) underlying44
 match k,hk with
 | 0,_=>simp[Instr.index,go_sem,hu,hi,cG,part,isAgg,sizeOf,typeInfo,Clk.get,asIntOf]
 | 1,_=>simp[Instr.index,go_sem,hu,hi,cG,part,isAgg,sizeOf,typeInfo,Clk.get,asIntOf]
 | 2,_=>simp[Instr.index,go_sem,hu,hi,cG,part,isAgg,sizeOf,typeInfo,Clk.get,asIntOf]
 | 3,_=>simp[Instr.index,go_sem,hu,hi,cG,part,isAgg,sizeOf,typeInfo,Clk.get,asIntOf]
 | 4,_=>simp[Instr.index,go_sem,hu,hi,cG,part,isAgg,sizeOf,typeInfo,Clk.get,asIntOf]
theorem ZeA(e:Ev)(w:World)(h:e.Ok):Calls prog 161 #[Zaa e] w (Zv (.int .i64 0) w):=by
 obtain⟨g0,g1,g2,g3,g4,g5,g6,g7⟩:=h;have bU:=Zsm w e e.r g0;obtain⟨HE,H5⟩:=ZH2 g7 g5;clear g7 g5;have hd:(((e.ctx.get e.r:Nat):Int) != (e.n:Int)-1)=false:=by rw[bne_eq_false_iff_eq];omega
 go_enter func161,ntmps161;go_wp2_with (go_at_call 190;refine(Zgx _ _ _ _ ZO ZO).mono ?_;rintro e w' ⟨rfl,rfl⟩)
 go_loop [4,23] (λ _ i=>∃ k:Nat,k<=5/\i = .int .i64 k) (λ _ i=>5-(intOf i).toNat)
 case atStart=>exact⟨0,ZO,rfl⟩
 case round =>
  obtain⟨k,hk,rfl⟩:=hrel;by_cases ef:k<5
  ·have jK:=λ w=>Zah e.ctx k ef w
   have hm:=H5.out k;go_wp2_with (go_at_call 190;refine(Zgx _ _ _ _ ZO ZO).mono ?_;rintro e w' ⟨rfl,rfl⟩)
   go_round
   case rel=>exact⟨k+1,ZO,ZN⟩
   case measure=>simp[intOf];omega
  ·obtain rfl:k=5:=ZO;go_wp2_with fail;go_quiet (fail)
   go_wp2_with fail;refine(ZmT e.kind e.key e.label e.value _ HE.out).mono ?_;rintro e2 w2 ⟨rfl,bW⟩;go_wp2
   go_ret;exact⟨rfl,((((Kept.start (ZW w.heap.size w)).alloc _).drewN nq).step bW).below⟩
def cells(bs:List Nat):List Value:=bs.map λ x:Nat => .int .u8 (x:Int)
def str(bs:List Nat):ByteArray:=strOfNums (bs.map λ x:Nat=>(x:Int))
theorem Zq(a b:List Nat):cells (a++b)=cells a++cells b:=by simp[cells]
theorem ZdW(a:List Nat):(cells a).length=a.length:=by simp[cells]
theorem ZgQ{bs:List Nat}{i:Nat}(h:i<bs.length):(cells bs)[i]? = some (.int .u8 ((bs.getD i 0:Nat):Int)):=by
 simp[cells,List.getD,h]
theorem Z2(bs:List Nat):∀ u∈cells bs,u.oneCell'=true:=by
 intro u hu;simp only[cells,List.mem_map] at hu;obtain⟨x,_,rfl⟩:=hu;rfl
def Bytes(w:World)(a:Option Addr)(n cap:Nat)(bs:List Nat):Prop :=
 n<=cap/\cap<=maxLen/\((n=0/\bs=[])∨∃ b off,a=some ⟨b,off,none⟩/\b<w.heap.size/\bs.length=n/\∀ i,i<n->w.cell? ⟨b,off+i,none⟩=some (.int .u8 ((bs.getD i 0:Nat):Int)))
theorem Bytes.len{w:World}{a:Option Addr}{n cap:Nat}{bs:List Nat}(h:Bytes w a n cap bs):bs.length=n:=by
 rcases h.2.2 with ⟨rfl,rfl⟩|⟨_,_,_,_,h,_⟩
 ·rfl
 ·exact h
theorem Bytes.kept{w w':World}{B:Nat}{a:Option Addr}{n cap:Nat}{bs:List Nat}(h:Bytes w a n cap bs)(hk:Below B w w')(hB:w.heap.size<=B):Bytes w' a n cap bs:=by
 refine⟨h.1,h.2.1,?_⟩;rcases h.2.2 with h | ⟨b,off,h1,h4,h5,h6⟩
 ·exact .inl h
 ·refine .inr ⟨b,off,h1,ZR h4 hk.size,h5,λ i hi=>?_⟩;rw[hk.cell (p:=⟨b,_,none⟩) (by show b<B;omega)];exact h6 i hi
theorem Bytes.pos{w:World}{a:Option Addr}{n cap:Nat}{bs:List Nat}(h:Bytes w a n cap bs)(hn:0<n):∃ b off,a=some ⟨b,off,none⟩/\b<w.heap.size/\∀ i,i<n->w.cell? ⟨b,off+i,none⟩=some (.int .u8 ((bs.getD i 0:Nat):Int)):=by
 rcases h.2.2 with ⟨rfl,_⟩|⟨b,off,h1,h4,_,h6⟩
 ·omega
 ·exact⟨b,off,h1,h4,h6⟩
theorem Zhm{bs:List Nat}{m i:Nat}(h:i<m):(bs.take m).getD i 0=bs.getD i 0:=by simp[List.getD,h]
theorem Bytes.cut{w:World}{a:Option Addr}{n cap:Nat}{bs:List Nat}(h:Bytes w a n cap bs)(m:Nat)(hm:m<=n):Bytes w a m cap (bs.take m):=by
 obtain⟨g1,g2,g⟩:=h;refine⟨ZO,g2,?_⟩;rcases g with ⟨rfl,rfl⟩|⟨b,off,h1,h4,h5,h6⟩
 ·exact .inl ⟨ZO,ZM⟩
 ·refine .inr ⟨b,off,h1,h4,by rw[ZV];omega,λ i hi=>?_⟩;rw[Zhm hi];exact h6 i ZO
theorem Bytes.reads{w:World}{a:Option Addr}{n cap:Nat}{bs:List Nat}(h:Bytes w a n cap bs):Reads w w.heap.size 1 a n (cells bs):=by
 refine⟨by rw[ZdW,h.len];omega,λ hn=>?_⟩;obtain⟨b,off,rfl,h4,h6⟩:=h.pos hn;refine⟨_,rfl,h4,λ j u hu=>?_⟩;have hl:=h.len;have hj:j<bs.length:=by
  rcases Nat.lt_or_ge j bs.length with h | h
  ·exact h
  ·rw[List.getElem?_eq_none (by rw[ZdW];exact h)] at hu;cases hu
 rw[ZgQ hj] at hu;have e:Addr.add ⟨b,off,none⟩ j=⟨b,off+j,none⟩:=by
  unfold Addr.add;by_cases h:j=0 <;> simp[h]
 rw[e,h6 j ZO,hu]
theorem Bytes.ab{w:World}{base n:Nat}{v:Value}{bs:List Nat}{e:TypeId}(h:w.ownsRow base e 1 v n (cells bs)):∃ a cap,v = .slice a n cap/\Bytes w a n cap bs:=by
 have hl:=h.1;rw[ZdW] at hl;rcases h.2 with ⟨rfl,rfl⟩|⟨g,cap,cur,rfl,hb,hg,eH,ic,gz,js⟩
 ·exact⟨none,0,rfl,ZL _,by unfold maxLen;omega,.inl ⟨rfl,List.eq_nil_of_length_eq_zero ZO⟩⟩
 ·refine⟨_,_,rfl,eH,ic,.inr ⟨g,0,rfl,?_,ZO,λ i hi=>?_⟩⟩
  ·rcases Nat.lt_or_ge g w.heap.size with ce | my
   ·exact ce
   ·rw[Array.getElem?_eq_none my] at hg;cases hg
  ·have c0:=h.cellAt i ZO;rw[ZgQ ZO] at c0;simp only[Nat.zero_add];exact c0
theorem Zhw{P:Program}{w:World}{a:Option Addr}{n cap:Nat}{bs:List Nat}{src e:TypeId}(hs:P.underlying src=some (.slice e))(he:P.underlying e=some (.int .u8))(h:Bytes w a n cap bs):
  ∀ dst,P.underlying dst=some .string->(convert src dst (.slice a n cap)).run P w = .ok (.string (str bs)) w:=by
 rcases h.2.2 with ⟨rfl,rfl⟩|⟨b,off,rfl,h4,h5,h6⟩
 ·intro dst hd;rw[run_convert_bytes_string w src dst e _ 0 cap hs he hd]
  cases a with
  | none=>simp[Conv.bytesToString,str,strOfNums];rfl
  | some a =>
   rw[run_bytesToString w a 0 cap [] (by simp[loadCells,loadCellsFrom])];simp[str,strOfNums];rfl
 ·refine run_convert_bytes_arg w src e hs he b off n cap _ (by simp[h5]) (λ i hi=>?_);rw[h6 i hi];simp[List.getD,h5,hi]
abbrev ZsQ:Nat:=3988292384
def bit(x:Nat):Nat:=if x%2=1 then x / 2 ^^^ ZsQ else x / 2
def run:Nat->Nat->Nat
 | 0,x=>x
 | m+1,x=>run m (bit x)
def stepN(r c:Nat):Nat:=run 8 (r ^^^ c)
def regN(r:Nat)(l:List Nat):Nat:=l.foldl stepN r
abbrev ZcZ:Nat:=4294967295
def ZdK(l:List Nat):Nat:=ZcZ-regN ZcZ l
def ZbJ(s:Nat):List Nat:=[s%256,s / 256%256,s / 65536%256,s / 16777216%256]
def Zau(l:List Nat):List Nat:=l++ZbJ (ZdK l)
def big:List Nat->Nat
 | []=>0
 | c::l=>c+256*big l
theorem Zrk(a b:Nat):(a ^^^ b) / 2=a / 2 ^^^ b / 2:=by
 have h:=Nat.xor_div_two_pow (a:=a) (b:=b) (n:=1);simpa using h
theorem Zrl(a b:Nat):(a ^^^ b)%2=(a%2+b%2)%2:=by
 have h:=Nat.xor_mod_two_pow (a:=a) (b:=b) (n:=1);simp at h;rw[h];rcases Nat.mod_two_eq_zero_or_one a with ha | ha <;> rcases Nat.mod_two_eq_zero_or_one b with hb | hb <;> simp[ha,hb]
theorem Zrm(a b c d:Nat):(a ^^^ b) ^^^ (c ^^^ d)=(a ^^^ c) ^^^ (b ^^^ d):=by
 rw[Nat.xor_assoc,←Nat.xor_assoc b c d,Nat.xor_comm b c,Nat.xor_assoc c b d,←Nat.xor_assoc]
theorem Zrz(a b:Nat):bit (a ^^^ b)=bit a ^^^ bit b:=by
 unfold bit;rw[Zrl,Zrk];rcases Nat.mod_two_eq_zero_or_one a with ha | ha <;> rcases Nat.mod_two_eq_zero_or_one b with hb | hb <;> simp only[ha,hb]
 ·simp
 ·simp[Nat.xor_assoc]
 ·simp only[if_true,Nat.zero_ne_one,if_false];rw[Nat.xor_assoc,Nat.xor_comm (b / 2),←Nat.xor_assoc]
 ·simp only[Nat.reduceAdd,Nat.reduceMod,if_true,Nat.zero_ne_one,if_false];rw[Zrm,Nat.xor_self,Nat.xor_zero]
theorem Znj(y:Nat):bit (2*y)=y:=by
 unfold bit;rw[if_neg ZO];omega
theorem Zhx:∀ (m a b:Nat),run m (a ^^^ b)=run m a ^^^ run m b
 | 0,_,_=>rfl
 | m+1,a,b=>by simp only[run,Zrz,Zhx m]
theorem Zhi:∀ (m y:Nat),run m (2 ^ m*y)=y
 | 0,y=>by simp[run]
 | m+1,y=>by
  have e:2 ^ (m+1)*y=2*(2 ^ m*y):=by rw[Nat.pow_succ,Nat.mul_comm (2 ^ m) 2,Nat.mul_assoc]
  rw[e];simp only[run,Znj,Zhi m]
theorem ZjG:∀ (m n x:Nat),run (m+n) x=run n (run m x)
 | 0,n,x=>by simp[run]
 | m+1,n,x=>by
  rw[show m+1+n=(m+n)+1 by omega];simp only[run,ZjG m]
theorem ZkW{x:Nat}(h:x<4294967296):bit x<4294967296:=by
 unfold bit;split
 ·exact Nat.xor_lt_two_pow (n:=32) ZO ZJ
 ·omega
theorem ZpB:∀ (m:Nat) {x:Nat},x<4294967296->run m x<4294967296
 | 0,_,h=>h
 | m+1,_,h=>ZpB m (ZkW h)
theorem Zh7{a b:Nat}(h:a ^^^ b=0):a=b:=by
 have:a ^^^ b ^^^ b=0 ^^^ b:=by rw[h]
 simpa [Nat.xor_assoc] using this
theorem Zp5{x:Nat}(h:x<4294967296)(h0:bit x=0):x=0:=by
 unfold bit at h0;split at h0
 ·have h1:x / 2=3988292384:=Zh7 h0;omega
 ·omega
theorem Zin:∀ (m:Nat) {x:Nat},x<4294967296->run m x=0->x=0
 | 0,_,_,h=>h
 | m+1,_,hx,h=>Zp5 hx (Zin m (ZkW hx) h)
theorem Zr9(m:Nat){a b:Nat}(ha:a<4294967296)(hb:b<4294967296)(h:run m a=run m b):a=b:=by
 refine Zh7 (Zin m (Nat.xor_lt_two_pow (n:=32) ha hb) ?_);rw[Zhx,h,Nat.xor_self]
theorem Zl0{a b:Nat}(ha:a<4294967296)(hb:b<4294967296):a ^^^ b<4294967296:=Nat.xor_lt_two_pow (n:=32) ha hb
theorem Zm5{r c:Nat}(hr:r<4294967296)(hc:c<256):stepN r c<4294967296:=ZpB 8 (Zl0 hr ZO)
theorem ZpA{l:List Nat}(hl:∀ x∈l,x<256):∀ {r:Nat},r<4294967296->regN r l<4294967296:=by
 induction l with
 | nil=>intro r h;exact h
 | cons c l ih=>intro r h;exact ih (λ x hx=>hl x (by simp[hx])) (Zm5 h (hl c ZM))
theorem ZlU(l:List Nat):ZdK l<4294967296:=by unfold ZdK ZcZ;omega
theorem Zn8(r:Nat)(a b:List Nat):regN r (a++b)=regN (regN r a) b:=by simp[regN,List.foldl_append]
theorem ZfU{c y:Nat}(h:c<256):c+256*y=c ^^^ 256*y:=by
 have h1:=Nat.two_pow_add_eq_or_of_lt (b:=c) (i:=8) ZO y;have h2:(2 ^ 8*y) ^^^ c=2 ^ 8*y ||| c:=by
  apply Nat.eq_of_testBit_eq;intro i;rw[Nat.testBit_xor,Nat.testBit_or,Nat.testBit_two_pow_mul];rcases Nat.lt_or_ge i 8 with hi | hi
  ·simp[show ¬ i>=8 by omega]
  ·have:c.testBit i=false:=Nat.testBit_lt_two_pow (ZR h (by exact Nat.pow_le_pow_right (n:=2) ZO hi));simp[this]
 rw[Nat.xor_comm,h2,←h1,Nat.add_comm]
theorem Zhv:∀ (l:List Nat) (r:Nat),(∀ x∈l,x<256)->regN r l=run (8*l.length) (r ^^^ big l)
 | [],r,_=>by simp[regN,big,run]
 | c::l,r,h=>by
  have hc:c<256:=h c ZM;have e:regN r (c::l)=regN (stepN r c) l:=rfl;rw[e,Zhv l _ (λ x hx=>h x (by simp[hx]))];have e2:8*(c::l).length=8+8*l.length:=ZP;rw[e2,ZjG];have e3:r ^^^ big (c::l)=(r ^^^ c) ^^^ 2 ^ 8*big l:=by
   show r ^^^ (c+256*big l)=_
   rw[ZfU hc,Nat.xor_assoc]
  rw[e3,Zhx 8 (r ^^^ c) (2 ^ 8*big l),Zhi];rfl
theorem ZoD:∀ (l:List Nat),(∀ x∈l,x<256)->big l<2 ^ (8*l.length)
 | [],_=>by simp[big]
 | c::l,h=>by
  have hc:c<256:=h c ZM;have:=ZoD l (λ x hx=>h x (by simp[hx]));have e:2 ^ (8*(c::l).length)=256*2 ^ (8*l.length):=by
   rw[show 8*(c::l).length=8+8*l.length by simp;omega,Nat.pow_add]
  rw[e];show c+256*big l<_
  omega
theorem Zjk:∀ {a b:List Nat},(∀ x∈a,x<256)->(∀ x∈b,x<256)->a.length=b.length->big a=big b->a=b
 | [],[],_,_,_,_=>rfl
 | x::a,y::b,ha,hb,hl,h=>by
  have hx:=ha x ZM;have hy:=hb y ZM;have h':x+256*big a=y+256*big b:=h;have e:x=y:=ZO;have e2:big a=big b:=ZO;rw[e,Zjk (λ z hz=>ha z (by simp[hz])) (λ z hz=>hb z (by simp[hz])) (by simpa using hl) e2]
theorem Zrd(s:Nat):(ZbJ s).length=4:=rfl
theorem Zgs(s:Nat):∀ x∈ZbJ s,x<256:=by
 intro x hx;simp only[ZbJ,List.mem_cons,List.not_mem_nil,or_false] at hx;omega
theorem ZkU{s:Nat}(h:s<4294967296):big (ZbJ s)=s:=by simp only[ZbJ,big];omega
theorem Zlw{r:Nat}(h:r<4294967296):ZcZ-r=ZcZ ^^^ r:=by
 have hr:r<2 ^ 32:=h;have e:(2 ^ 32-1) ^^^ r=2 ^ 32-1-r:=by
  apply Nat.eq_of_testBit_eq;intro i;rw[Nat.testBit_xor,Nat.testBit_two_pow_sub_one,show 2 ^ 32-1-r=2 ^ 32-(r+1) by omega,Nat.testBit_two_pow_sub_succ hr];by_cases hi:i<32
  ·simp[hi]
  ·have:r.testBit i=false:=Nat.testBit_lt_two_pow (ZR hr (Nat.pow_le_pow_right ZJ ZO));simp[hi,this]
 exact e.symm
theorem Zq1{r:Nat}{d:List Nat}(hd:∀ x∈d,x<256)(h4:d.length=4):regN r d=run 32 (r ^^^ big d):=by
 rw[Zhv d r hd,h4]
theorem Zp4{d:List Nat}(hd:∀ x∈d,x<256)(h4:d.length=4):big d<4294967296:=by
 have:=ZoD d hd;rw[h4] at this;omega
abbrev ZjE:Nat:=run 32 ZcZ
theorem Zkf{l d:List Nat}(hl:∀ x∈l,x<256)(hd:∀ x∈d,x<256)(h4:d.length=4):d=ZbJ (ZdK l)↔regN ZcZ (l++d)=ZjE:=by
 have hr:regN ZcZ l<4294967296:=ZpA hl ZJ;have hs:ZdK l=ZcZ ^^^ regN ZcZ l:=Zlw hr;rw[Zn8,Zq1 hd h4];constructor
 ·rintro rfl;rw[ZkU (ZlU l),hs,←Nat.xor_assoc,Nat.xor_comm (regN ZcZ l),Nat.xor_assoc,Nat.xor_self,Nat.xor_zero]
 ·intro h;have h1:=Zr9 32 (Zl0 hr (Zp4 hd h4)) ZJ h;refine Zjk hd (Zgs _) (by rw[h4];rfl) ?_;rw[ZkU (ZlU l),hs];generalize regN ZcZ l=R at h1 ⊢;rw[←h1,Nat.xor_comm R,Nat.xor_assoc,Nat.xor_self,Nat.xor_zero]
theorem Zq5{l:List Nat}(hl:∀ x∈l,x<256):regN ZcZ (Zau l)=ZjE:=(Zkf hl (Zgs _) rfl).1 rfl
theorem ZeT{l:List Nat}(hl:∀ x∈l,x<256):∀ x∈Zau l,x<256:=by
 intro x hx;rcases List.mem_append.1 hx with h | h
 ·exact hl x h
 ·exact Zgs _ x h
theorem ZbD(l:List Nat):(Zau l).length=l.length+4:=by simp[Zau,Zrd]
theorem ZsJ{s t:List Nat}{k w:Nat}(hs:∀ x∈s,x<256)(ht:∀ x∈t,x<256)(hl:t.length=s.length)(hk:k<=8*s.length)(hw:w<4294967296)
  (h:big t=big s ^^^ 2 ^ k*w) (hr:regN ZcZ t=regN ZcZ s):t=s:=by
 refine Zjk ht hs hl ?_;rw[Zhv t _ ht,Zhv s _ hs,hl,h,←Nat.xor_assoc,Zhx] at hr;have h0:run (8*s.length) (2 ^ k*w)=0:=by
  have e:run (8*s.length) (ZcZ ^^^ big s) ^^^ (run (8*s.length) (ZcZ ^^^ big s) ^^^ run (8*s.length) (2 ^ k*w))=0:=by rw[hr,Nat.xor_self]
  rw[←Nat.xor_assoc,Nat.xor_self,Nat.zero_xor] at e;exact e
 rw[show 8*s.length=k+(8*s.length-k) by omega,ZjG,Zhi] at h0;rw[h,Zin _ hw h0,Nat.mul_zero,Nat.xor_zero]
theorem ZkV:∀ {l:List Nat} {j b:Nat},(∀ x∈l,x<256)->j<l.length->b<8->big (l.set j (l.getD j 0 ^^^ 2 ^ b))=big l ^^^ 2 ^ (8*j+b)
 | [],j,_,_,h,_=>by simp at h
 | c::l,0,b,h,_,hb=>by
  have hc:c<256:=h c ZM;have h2:(2:Nat) ^ b<256:=Nat.pow_lt_pow_right (n:=8) ZO hb;have hx:c ^^^ 2 ^ b<256:=Nat.xor_lt_two_pow (n:=8) hc h2;simp only[ZB,List.getD_cons_zero,big,Nat.mul_zero,Nat.zero_add];rw[ZfU hx,ZfU hc,Nat.xor_assoc,Nat.xor_assoc,Nat.xor_comm (2 ^ b)]
 | c::l,j+1,b,h,hj,hb=>by
  have hc:c<256:=h c ZM;have ih:=ZkV (l:=l) (j:=j) (b:=b) (λ x hx=>h x (by simp[hx])) (by simpa using hj) hb;simp only[ZC,List.getD_cons_succ,big];rw[ih,ZfU hc,ZfU hc,Nat.xor_assoc];congr 1;have e:=Nat.shiftLeft_xor_distrib (a:=big l) (b:=2 ^ (8*j+b)) (i:=8);simp only[Nat.shiftLeft_eq] at e;rw[Nat.mul_comm 256,Nat.mul_comm 256];rw[show 2 ^ (8*(j+1)+b)=2 ^ (8*j+b)*2 ^ 8 by rw[←Nat.pow_add];congr 1;omega];exact e
theorem ZhE{x:Nat}(h:x<4294967296):bits .and .u32 (x:Int) 1=((x%2:Nat):Int):=by
 have h1:=u32_and_nat x 1 h ZO;rw[Nat.and_one_is_mod] at h1;simpa using h1
theorem Zqg{x:Nat}(h:x<4294967296)(h1:x%2=1):bits .xor .u32 ((x:Int) / 2) 3988292384=((bit x:Nat):Int):=by
 have h2:=u32_xor_nat (x / 2) 3988292384 ZO ZO;unfold bit;rw[if_pos h1,←h2];simp
theorem ZoY{x:Nat}(h1:x%2=0):((x:Int) / 2)=((bit x:Nat):Int):=by
 unfold bit;rw[if_neg ZO];simp
theorem Zrj{r c:Nat}(hr:r<4294967296)(hc:c<256):bits .xor .u32 (r:Int) (c:Int)=((r ^^^ c:Nat):Int):=u32_xor_nat r c hr ZO
theorem Zq4{x k:Nat}(h:k<8):run (8-k) x=run (8-(k+1)) (bit x):=by
 rw[show 8-k=(8-(k+1))+1 by omega];rfl
theorem Zq9(r c:Nat)(w:World)(hr:r<4294967296)(hc:c<256):
  Calls prog 228 #[.int .u32 r,.int .u8 c] w λ e w'=>e = .returned (.int .u32 (stepN r c:Nat))/\w=w':=by
 have hx:=Zrj hr hc;have ce:r ^^^ c<4294967296:=Zl0 hr ZO;have hS:run 8 (r ^^^ c)=stepN r c:=rfl;generalize stepN r c=S at hS ⊢;generalize r ^^^ c=x0 at hx ce hS;have HS:=ZH hS;clear hS;go_enter func228,ntmps228;go_wp2_with fail;go_loop [0,9] (λ v i=>∃ k x:Nat,k<=8/\i = .int .i64 k/\v = .int .u32 x/\x<4294967296/\Hid (run (8-k) x=S)) (λ _ i=>8-(intOf i).toNat)
 case atStart=>exact⟨0,x0,ZO,rfl,rfl,ce,HS⟩
 case round =>
  obtain⟨k,x,hk,rfl,rfl,fy,HR⟩:=hrel;clear hx;by_cases lG:k<8
  ·have hn:=Zq4 (x:=x) lG;rw[HR.out] at hn;have cQ:=ZkW fy;have HN:=ZH hn.symm;clear hn;have ha:=ZhE fy;rcases Nat.mod_two_eq_zero_or_one x with h2 | h2
   focus
    have he:=ZoY h2
   rotate_left
   focus
    have he:=Zqg fy h2
   rotate_left
   all_goals
    rw[h2] at ha;clear h2;go_wp2_with fail;go_round
    case rel=>exact⟨k+1,bit x,ZO,ZN,rfl,cQ,HN⟩
    case measure=>simp[intOf];omega
  ·obtain rfl:k=8:=ZO;have hR:x=S:=HR.out;subst hR;go_wp2
   go_ret;exact⟨rfl,rfl⟩
theorem Zm1{x:Nat}(h:x<4294967296):bits .xor .u32 IntKind.u32.max (x:Int)=((4294967295-x:Nat):Int):=by
 have h1:=u32_xor_nat 4294967295 x ZO h;have h2:=Zlw h;rw[←h2] at h1;exact h1
theorem Zq2{l:List Nat}{q x:Nat}(h:q<l.length):regN x (l.drop q)=regN (stepN x (l.getD q 0)) (l.drop (q+1)):=by
 unfold regN;rw[List.drop_eq_getElem_cons h,List.foldl_cons];simp only[List.getD,ZX h,Option.getD_some]
theorem Zf9{l:List Nat}(h:∀ x∈l,x<256)(q:Nat):l.getD q 0<256:=by
 rcases Nat.lt_or_ge q l.length with hq | hq
 ·simp only[List.getD,ZX hq,Option.getD_some];exact h _ (List.getElem_mem hq)
 ·simp[List.getD,List.getElem?_eq_none hq]
theorem Zra(b off n cap:Nat)(l:List Nat)(w:World)(hl:l.length=n)(hs:∀ x∈l,x<256)(fZ:n<=cap)(ic:cap<=maxLen)
  (hc:∀ i,i<n->w.cell? ⟨b,off+i,none⟩=some (.int .u8 ((l.getD i 0:Nat):Int))) :
  Calls prog 200 #[.slice (some ⟨b,off,none⟩) n cap] w λ e w'=>e = .returned (.int .u32 (ZdK l:Nat))/\w=w':=by
 unfold maxLen at ic;obtain⟨S,hS⟩:∃ S,S=regN ZcZ l:=⟨_,rfl⟩;have Su:S<4294967296:=by rw[hS];exact ZpA hs ZJ
 have rP:ZdK l=4294967295-S:=by rw[hS];rfl
 rw[rP];obtain⟨HC,HS,HL,HR⟩:=ZH4 hc hs hl hS.symm;clear hc hs hl hS rP;go_enter func200,ntmps200;go_wp2_with fail;go_loop [3,8] (λ v i=>∃ q x:Nat,q<=n/\i = .int .i64 q/\v = .int .u32 x/\x<4294967296/\Hid (regN x (l.drop q)=S)) (λ _ i=>n-(intOf i).toNat)
 case atStart=>exact⟨0,4294967295,ZO,rfl,rfl,ZO,HR⟩
 case round =>
  obtain⟨q,x,hq,rfl,rfl,fy,HX⟩:=hrel;clear HR;by_cases dy:q<n
  ·have SC:=HC.out q dy;have eX:=Zf9 HS.out q;have hn:=Zq2 (l:=l) (q:=q) (x:=x) (by rw[HL.out];exact dy);rw[HX.out] at hn;generalize l.getD q 0=c at SC eX hn;have My:=Zm5 fy eX;have HN:=ZH hn.symm;clear hn;go_wp2_with fail;refine(Zq9 x c w fy eX).mono ?_;rintro e w' ⟨rfl,rfl⟩;go_wp2_with fail;go_round
   case rel=>exact⟨q+1,_,ZO,ZN,rfl,My,HN⟩
   case measure=>simp[intOf];omega
  ·obtain rfl:n=q:=ZO;have hX:x=S:=by
    have h:=HX.out;rw[←HL.out,List.drop_length] at h;exact h
   subst hX;have gr:=Zm1 fy;go_wp2
   go_ret;exact⟨rfl,rfl⟩
theorem Zrb(a:Option Addr)(cap:Nat)(w:World):Calls prog 200 #[.slice a 0 cap] w λ e w'=>e = .returned (.int .u32 (ZdK []:Nat))/\w=w':=by
 go_enter func200,ntmps200;go_wp2_with fail;go_loop [3,8] (λ v i=>i = .int .i64 0/\v = .int .u32 4294967295) (λ _ _=>0)
 case atStart=>exact⟨rfl,rfl⟩
 case round =>
  obtain⟨rfl,rfl⟩:=hrel;have gr:=Zm1 (x:=4294967295) ZO;go_wp2
  go_ret;exact⟨rfl,rfl⟩
theorem Zsd{a:Option Addr}{n cap:Nat}{bs:List Nat}{w:World}(h:Bytes w a n cap bs)(hs:∀ x∈bs,x<256):
  Calls prog 200 #[.slice a n cap] w λ e w'=>e = .returned (.int .u32 (ZdK bs:Nat))/\w=w':=by
 obtain⟨h1,h2,⟨rfl,rfl⟩|⟨b,off,rfl,h4,h5,h6⟩⟩:=h
 ·exact Zrb a cap w
 ·exact Zra b off n cap bs w h5 hs h1 h2 h6
theorem Zfi{P:Program}{fn:Func}{t ty:Nat}(h:fn.results=#[.cell t ty]){tmps:Array Value}{w:World}{ad:Addr}{v:Value}(hp:tmps.getD t undef = .pointer (some ad))
  (hl:(loadVar ty ad).run P w = .ok v w):(results fn tmps).run P w = .ok v w:=by
 have o7:tmps[t]?.getD undef = .pointer (some ad):=by simpa using hp
 simp[results,h,o7,asAddr,hl]
def part(s q:Nat):Array Value:=(cells ((ZbJ s).take q++List.replicate (4-q) 0)).toArray
theorem Zrc{s q:Nat}(h:q<4):IntKind.u8.wrap ((s:Int) / 2 ^ (8*q))=(((ZbJ s).getD q 0:Nat):Int):=by
 rw[IntKind.wrap_u8];rcases(by omega:q=0∨q=1∨q=2∨q=3) with rfl | rfl | rfl | rfl <;> simp[ZbJ] <;> omega
theorem ZqG{s q:Nat}(h:q<4):(part s q).setIfInBounds q (.int .u8 (((ZbJ s).getD q 0:Nat):Int))=part s (q+1):=by
 rcases(by omega:q=0∨q=1∨q=2∨q=3) with rfl | rfl | rfl | rfl <;> rfl
theorem ZlV{a:Option Addr}{n cap:Nat}{bs:List Nat}{w:World}(h:Bytes w a n cap bs)(hs:∀ x∈bs,x<256):
  Calls prog 170 #[.slice a n cap] w λ e w'=>e = .returned (.agg (cells (ZbJ (ZdK bs))).toArray)/\Below w.heap.size w w':=by
 obtain⟨S,hS⟩:∃ S,S=ZdK bs:=⟨_,rfl⟩;have Su:S<4294967296:=by rw[hS];exact ZlU bs
 obtain⟨HB,HS,Ia⟩:=ZH3 h hs hS;clear h hs hS;go_enter func170,ntmps170;go_wp2_with fail;have cD:Below w.heap.size w ((w.alloc (Obj.cells #[Value.int IntKind.u8 0,Value.int IntKind.u8 0,Value.int IntKind.u8 0,Value.int IntKind.u8 0] 274)).alloc (Obj.cells #[Value.int IntKind.u8 0,Value.int IntKind.u8 0,Value.int IntKind.u8 0,Value.int IntKind.u8 0] 274)):=((ZW _ _).alloc (ZL _) _).alloc ZM _;have cA:Kept w.heap.size w _:=Kept.start cD;have tp:Blk ((w.alloc (Obj.cells #[Value.int IntKind.u8 0,Value.int IntKind.u8 0,Value.int IntKind.u8 0,Value.int IntKind.u8 0] 274)).alloc (Obj.cells #[Value.int IntKind.u8 0,Value.int IntKind.u8 0,Value.int IntKind.u8 0,Value.int IntKind.u8 0] 274)) w.heap.size 274 (part S 0):=(ZBn w 274 _).alloc _;have tq:Blk ((w.alloc (Obj.cells #[Value.int IntKind.u8 0,Value.int IntKind.u8 0,Value.int IntKind.u8 0,Value.int IntKind.u8 0] 274)).alloc (Obj.cells #[Value.int IntKind.u8 0,Value.int IntKind.u8 0,Value.int IntKind.u8 0,Value.int IntKind.u8 0] 274)) (w.heap.size+1) 274 (part S 0):=by
  have:=ZBn (w.alloc (Obj.cells #[Value.int IntKind.u8 0,Value.int IntKind.u8 0,Value.int IntKind.u8 0,Value.int IntKind.u8 0] 274)) 274 #[Value.int IntKind.u8 0,Value.int IntKind.u8 0,Value.int IntKind.u8 0,Value.int IntKind.u8 0];have e:(w.alloc (Obj.cells #[Value.int IntKind.u8 0,Value.int IntKind.u8 0,Value.int IntKind.u8 0,Value.int IntKind.u8 0] 274)).heap.size=w.heap.size+1:=ZM;rw[e] at this;exact this
 generalize (w.alloc (Obj.cells #[Value.int IntKind.u8 0,Value.int IntKind.u8 0,Value.int IntKind.u8 0,Value.int IntKind.u8 0] 274)).alloc (Obj.cells #[Value.int IntKind.u8 0,Value.int IntKind.u8 0,Value.int IntKind.u8 0,Value.int IntKind.u8 0] 274)=w1 at cA tp tq ⊢;clear cD;refine(Zsd (HB.out.kept cA.below (ZL _)) HS.out).mono ?_;rintro e w2 ⟨rfl,rfl⟩;rw[←Ia.out];obtain⟨cL,cH⟩:=ZH2 tp tq;clear tp tq;go_wp2_with fail;go_loopw [8] (λ i wr=>∃ q:Nat,q<=4/\i = .int .i64 q/\Hid (Blk wr w.heap.size 274 (part S 0))/\Hid (Blk wr (w.heap.size+1) 274 (part S q))/\Kept w.heap.size w wr) (λ i _=>4-(intOf i).toNat)
 case atStart=>exact⟨0,ZO,rfl,cL,cH,cA⟩
 case round =>
  clear cA;obtain⟨q,hq,rfl,HX,HY,hk⟩:=hrel;by_cases Mj:q<4
  ·have hg:=Zrc (s:=S) Mj;have gj:=ZqG (s:=S) Mj;have ed:=HY.out.ai q (.int .u8 (((ZbJ S).getD q 0:Nat):Int));rw[gj] at ed;have jf:=HX.out.far (p:=⟨w.heap.size+1,q,none⟩) ZM (.int .u8 (((ZbJ S).getD q 0:Nat):Int));have jB:=hk.setCell (p:=⟨w.heap.size+1,q,none⟩) ZM (.int .u8 (((ZbJ S).getD q 0:Nat):Int));obtain⟨u,bU⟩:∃ u,wr.cell? ⟨w.heap.size+1,q,none⟩=some u:=by
    rw[HY.out.cell q];have:q<(part S q).size:=by simp[part,cells,ZbJ];omega
    exact⟨_,Array.getElem?_eq_getElem this⟩
   have gA:=HY.out.frozen q;generalize (ZbJ S).getD q 0=d at hg ed jf jB;obtain⟨HG,HF,HK⟩:=ZH3 ed jf jB;clear gj ed jf jB;go_wp2
   go_roundw
   case rel=>exact⟨q+1,ZO,ZN,HF,HG,HK.out⟩
   case measure=>simp[intOf];omega
  ·obtain rfl:q=4:=ZO;obtain⟨d0,d1,d2,d3,hd⟩:∃ d0 d1 d2 d3,ZbJ S=[d0,d1,d2,d3]:=⟨_,_,_,_,rfl⟩;have c0:wr.cell? ⟨w.heap.size+1,0,none⟩=some (.int .u8 (d0:Int)):=by rw[HY.out.cell 0];unfold part;rw[hd];rfl
   have c1:wr.cell? ⟨w.heap.size+1,1,none⟩=some (.int .u8 (d1:Int)):=by rw[HY.out.cell 1];unfold part;rw[hd];rfl
   have c2:wr.cell? ⟨w.heap.size+1,2,none⟩=some (.int .u8 (d2:Int)):=by rw[HY.out.cell 2];unfold part;rw[hd];rfl
   have c3:wr.cell? ⟨w.heap.size+1,3,none⟩=some (.int .u8 (d3:Int)):=by rw[HY.out.cell 3];unfold part;rw[hd];rfl
   have x0:wr.cell? ⟨w.heap.size,0,none⟩=some (.int .u8 0):=by rw[HX.out.cell 0];rfl
   have x1:wr.cell? ⟨w.heap.size,1,none⟩=some (.int .u8 0):=by rw[HX.out.cell 1];rfl
   have x2:wr.cell? ⟨w.heap.size,2,none⟩=some (.int .u8 0):=by rw[HX.out.cell 2];rfl
   have x3:wr.cell? ⟨w.heap.size,3,none⟩=some (.int .u8 0):=by rw[HX.out.cell 3];rfl
   have f0:=HX.out.frozen 0;have f1:=HX.out.frozen 1;have f2:=HX.out.frozen 2;have f3:=HX.out.frozen 3;have HD:=ZH hd;clear hd;go_wp2_with fail;have cQ:=(((HX.out.ai 0 (.int .u8 (d0:Int))).ai 1 (.int .u8 (d1:Int))).ai 2 (.int .u8 (d2:Int))).ai 3 (.int .u8 (d3:Int));have nR:=(((hk.setCell (p:=⟨w.heap.size,0,none⟩) (ZL _) (.int .u8 (d0:Int))).setCell (p:=⟨w.heap.size,1,none⟩) (ZL _) (.int .u8 (d1:Int))).setCell (p:=⟨w.heap.size,2,none⟩) (ZL _) (.int .u8 (d2:Int))).setCell (p:=⟨w.heap.size,3,none⟩) (ZL _) (.int .u8 (d3:Int));have gz:((((part S 0).setIfInBounds 0 (.int .u8 (d0:Int))).setIfInBounds 1 (.int .u8 (d1:Int))).setIfInBounds 2 (.int .u8 (d2:Int))).setIfInBounds 3 (.int .u8 (d3:Int))=(cells (ZbJ (ZdK bs))).toArray:=by
    rw[←Ia.out,HD.out];rfl
   rw[gz] at cQ;(try simp only[Exit.inBlock,Exit.then]);refine bodyPost_ret (Zfi rfl rfl (run_loadVar_row _ _ _ _ _ _ _ cQ underlying274 rfl ZK)) rfl ?_;exact⟨rfl,nR.below⟩
theorem ZaA:(prog.info? 5).map (λ i=>(i.zero,i.size,i.bytes))=some (some (.int .u8 0),1,1):=ZK
theorem ZeD(w:World)(e:TypeId)(u:Value):Reads (w.alloc (.cells #[u] e)) (w.heap.size+1) 1 (some ⟨w.heap.size,0,none⟩) 1 [u]:=by
 refine⟨rfl,λ _=>⟨_,rfl,ZM,λ j v hj=>?_⟩⟩;have uH:j=0:=by
  rcases Nat.eq_zero_or_pos j with h | h
  ·exact h
  ·rw[List.getElem?_eq_none ZP] at hj;cases hj
 subst uH;simp at hj;subst hj;exact(ZBn w e #[u]).cell 0
theorem Zdo(iI:List Nat)(c:Nat):cells iI++[.int .u8 (c:Int)]=cells (iI++[c]):=by rw[Zq];rfl
def Zsh(bs:List Nat)(w:World)(e:Ending)(w':World):Prop:=∃ v,e = .returned v/\w'.ownsRow w.heap.size 5 1 v bs.length (cells bs)/\Below w.heap.size w w'
theorem Zha{w:World}{g:Nat}(h:w.heap.size=g)(e:TypeId)(u:Value):Reads (w.alloc (.cells #[u] e)) (g+1) 1 (some ⟨g,0,none⟩) 1 [u]:=by
 subst h;exact ZeD w e u
theorem ZkJ{P:Program}(t e:TypeId)(i:TypeInfo)(z:Value)(ht:P.underlying t=some (.slice e))(hi:P.info? e=some i)(hz:i.zero=some z)
  (kl kc:IntKind) (n c:Nat) (eH:n<=c) (jP:i.bytes*c<=281474976710656) (BW:c<=9223372036854775807) (w:World) :
  (Instr.makeSlice t (.int kl (n:Int)) (.int kc (c:Int))).run P w = .ok (.slice (some ⟨w.heap.size,0,none⟩) n c) (w.alloc (.cells (madeCells z.cells (c*i.size)) e)):=by
 have hb:(i.bytes:Int)*(c:Int)<=281474976710656:=by
  have h:((i.bytes*c:Nat):Int)<=281474976710656:=ZO;rwa [Int.natCast_mul] at h
 have hr:=run_make (P:=P) w t e i z ht hi hz kl kc n c ZO ZO hb ZO;simp only[Int.toNat_natCast] at hr;exact hr
theorem ZoL(bs:List Nat)(i d:Nat):(cells bs).set i (.int .u8 (d:Int))=cells (bs.set i d):=by simp[cells,List.map_set]
theorem ZqF{w:World}{base e n:Nat}{v:Value}{xs:List Value}(h:w.ownsRow base e 1 v n xs)(hn:0<n):∃ g c,v = .slice (some ⟨g,0,none⟩) n c/\base<=g/\n<=c:=by
 rcases h.2 with ⟨_,rfl⟩|⟨g,cap,cur,rfl,hb,_,eH,_⟩
 ·omega
 ·exact⟨g,cap,rfl,hb,eH⟩
theorem Zi0(w:World)(B:Nat)(hB:B<=w.heap.size):(w.alloc (.cells #[] 5)).ownsRow B 5 1 (.slice (some ⟨w.heap.size,0,none⟩) 0 0) 0 (cells []) :=
 ⟨rfl,.inr ⟨w.heap.size,0,#[],rfl,hB,ZBn w 5 #[],ZL _,by unfold maxLen;omega,rfl,rfl⟩⟩
theorem Zpd(w:World)(B k:Nat)(hB:B<=w.heap.size)(hk:k<=maxLen):(w.alloc (.cells (madeCells (Value.int .u8 0).cells (k*1)) 5)).ownsRow B 5 1 (.slice (some ⟨w.heap.size,0,none⟩) 0 k) 0 (cells []):=by
 refine⟨by simp[cells],.inr ⟨w.heap.size,k,_,rfl,hB,ZBn w 5 _,Nat.zero_le _,hk,by simp[size_madeCells],?_⟩⟩;simp[cells]
theorem Zps{w:World}{g:Nat}{t:TypeId}{l:List Nat}(h:Blk w g t (cells l).toArray)(B:Nat)(hB:g<B):Reads w B 1 (some ⟨g,0,none⟩) l.length (cells l):=by
 refine⟨by simp[cells],λ _=>⟨_,rfl,hB,λ j u hu=>?_⟩⟩;have e:Addr.add ⟨g,0,none⟩ j=⟨g,j,none⟩:=by
  unfold Addr.add;by_cases h:j=0 <;> simp[h]
 rw[e,h.cell j];simpa using hu
theorem Za0(n:Nat)(w:World)(hn:n<18446744073709551616):Calls prog 122 #[.int .u64 n] w (Zsh (Zd n) w):=by
 have ua:=ZlD hn;have HN:=ZH ua;clear ua;obtain⟨i0,hi,cM,cG,cK⟩:=info_parts ZaA;go_enter func122,ntmps122;go_wp2_with fail;go_loopw [0,3] (λ x v wr=>∃ (k:Nat) (iI:List Nat),x = .int .u64 k/\Hid (Zd n=iI++Zd k)/\wr.ownsRow w.heap.size 5 1 v iI.length (cells iI)/\Below w.heap.size w wr/\iI.length<=9/\k<18446744073709551616) (λ x _ _=>(intOf x).toNat)
 case atStart=>exact⟨n,[],rfl,rfl,⟨rfl,.inl ⟨rfl,rfl⟩⟩,ZW _ _,ZM,hn⟩
 case round =>
  obtain⟨k,iI,rfl,HP,cT,fW,rt,Cb⟩:=hrel;have HO:=ZH cT;clear cT;by_cases hk:128<=k
  ·go_wp2_with (at_builtin;refine Zc _ rfl (.tmp 6) (.tmp 11) _ rfl w.heap.size 5 i0 _ 1 1 underlying106 hi cM cG cK rfl ZO u3 iI.length (cells iI) rfl (HO.out.alloc _) (wr.heap.size+1) (some ⟨wr.heap.size,0,none⟩) 1 1 [.int .u8 (k%128+128)] rfl (ZeD _ _ _) (by intro u hu;simp at hu;subst hu;rfl) ZF ZO (ZT fW.size ZM) ?_;intro v1 w1 eZ nk _)
   have ce:=HO.out.lt;go_roundw
   case rel =>
    have hP:Zd n=(iI++[k%128+128])++Zd (k / 128):=by rw[HP.out,ZdQ hk];simp
    have hL:=HN.out;have hp:=Z4 (k / 128);rw[hP] at hL;simp only[ZI] at hL;refine⟨k / 128,iI++[k%128+128],ZN,hP,?_,(fW.alloc fW.size _).grown nk (ZT fW.size ZM) (λ g hg=>(ce g hg).1),by simp at hL ⊢;omega,ZO⟩;have e:cells iI++[.int .u8 ((k:Int)%128+128)]=cells (iI++[k%128+128]):=by rw[←Zdo];simp
    rw[e] at eZ;simpa using eZ
   case measure=>simp[intOf];omega
  ·go_wp2_with (at_builtin;refine Zc _ rfl (.tmp 15) (.tmp 18) _ rfl w.heap.size 5 i0 _ 1 1 underlying106 hi cM cG cK rfl ZO u3 iI.length (cells iI) rfl (HO.out.alloc _) (wr.heap.size+1) (some ⟨wr.heap.size,0,none⟩) 1 1 [.int .u8 k] rfl (ZeD _ _ _) (by intro u hu;simp at hu;subst hu;rfl) ZF ZO (ZT fW.size ZM) ?_;intro v1 w1 eZ nk _)
   have ce:=HO.out.lt;go_ret;have hP:Zd n=iI++[k]:=by rw[HP.out,Zdt ZO]
   refine⟨v1,rfl,?_,(fW.alloc fW.size _).grown nk (ZT fW.size ZM) (λ g hg=>(ce g hg).1)⟩;rw[hP,←Zdo,ZI];exact eZ
end Go.Proofs.YtjkfognelhiepaaGreat
