import Derived.Laws.BitsAllLaws
import Derived.Laws.Bits64
import Derived.Below
import Derived.Laws.OwnMore
import Derived.Deep.AppendLies
import Derived.Deep.Draws
import Derived.Laws.Rows
import Derived.WalkKit
import Derived.Lib.Hide
import Derived.Maps.AppendAt
import Derived.RegionTactic
import Derived.OwnWalk
import Derived.Test.YtjkfognelhiepaaGreatRows
import Derived.StillTailTactics
import Derived.BigQuiet
import Derived.Deep.QuietTactic
import Derived.Laws.BytesArg
import Derived.Laws.MakeOwn
import Derived.Deep.RegionHeld3
import Derived.Lib.AppendStr
import Derived.Test.YtjkfognelhiepaaGreatProg
namespace Go.Proofs.YtjkfognelhiepaaGreat
open Go.RowKit _root_.Go.Proofs.Tryz
open Go.Value renaming slice→S_,int→I_,bool→B_,string→T_,pointer→P_
open Go.IntKind renaming i64→J_
open Go.Obj renaming cells→C_
open Go.Ending renaming returned→R_
set_option maxRecDepth 100000
set_option maxHeartbeats 8000000
theorem ZF {p : Prop} (h : p := by simp only [maxLen]; omega) : p := h
theorem ZP {p : Prop} (h : p := by simp; omega) : p := h
theorem ZK {p : Prop} (h : p := by kernel_rfl) : p := h
theorem ZO {p : Prop} (h : p := by omega) : p := h
theorem ZN {p : Prop} (h : p := by go_num) : p := h
theorem ZJ {p : Prop} (h : p := by decide) : p := h
theorem ZM {p : Prop} (h : p := by simp) : p := h
abbrev L_ (v w : World) : Prop := Below v.heap.size v w
theorem ZH {p : Prop} (h : p) : Hid p := Lib.hid h
theorem ZA {α : Type} {l : List α} {i : Nat} {a : α} : l.toArray.setIfInBounds i a = (l.set i a).toArray := List.setIfInBounds_toArray _ _ _
theorem ZB {α : Type} {x : α} {l : List α} {a : α} : (x :: l).set 0 a = a :: l := List.set_cons_zero
theorem ZC {α : Type} {x : α} {l : List α} {n : Nat} {a : α} : (x :: l).set (n + 1) a = x :: l.set n a := List.set_cons_succ
theorem ZL (n : Nat) : n ≤ n := Nat.le_refl n
theorem ZD {α : Type} {l : List α} {i : Nat} : l.toArray[i]? = l[i]? := List.getElem?_toArray
theorem ZE {α : Type} {a : α} {l : List α} : (a :: l)[0]? = some a := List.getElem?_cons_zero
theorem ZG {α : Type} {a : α} {l : List α} {i : Nat} : (a :: l)[i + 1]? = l[i]? := List.getElem?_cons_succ
theorem ZI {α : Type} {l m : List α} : (l ++ m).length = l.length + m.length := List.length_append
theorem ZW (B : Nat) (w : World) : Below B w w := Below.refl B w
theorem ZX {α : Type} {l : List α} {i : Nat} (h : i < l.length) : l[i]? = some l[i] := List.getElem?_eq_getElem h
theorem ZY {α : Type} {l : List α} {i : Nat} {a : α} (h : l[i]? = some a) : a ∈ l := List.mem_of_getElem? h
theorem ZZ {α : Type} {a : α} {l : List α} {i : Nat} : l[i]? = some a ↔ ∃ h : i < l.length, l[i] = a := List.getElem?_eq_some_iff
theorem ZV {α : Type} {l : List α} {i : Nat} : (l.take i).length = min i l.length := List.length_take
theorem ZU {α : Type} {l : List α} {i : Nat} (h : l.length ≤ i) : l.take i = l := List.take_of_length_le h
theorem ZR {n m k : Nat} (h : n < m) (g : m ≤ k) : n < k := Nat.lt_of_lt_of_le h g
theorem ZQ {α : Type} {x : Option α} : x.isSome = true ↔ ∃ a, x = some a := Option.isSome_iff_exists
theorem ZPp.{u} {c : Prop} [h : Decidable c] (hc : c) {α : Sort u} {t e : α} : ite c t e = t := if_pos hc
theorem ZPn.{u} {c : Prop} [h : Decidable c] (hc : ¬c) {α : Sort u} {t e : α} : ite c t e = e := if_neg hc
theorem ZT {n m k : Nat} (h : n ≤ m) (g : m ≤ k) : n ≤ k := Nat.le_trans h g
theorem ZH2 {p0 p1 : Prop} (h0 : p0) (h1 : p1) : Hid p0 ∧ Hid p1 := ⟨h0, h1⟩
theorem ZH3 {p0 p1 p2 : Prop} (h0 : p0) (h1 : p1) (h2 : p2) : Hid p0 ∧ Hid p1 ∧ Hid p2 := ⟨h0, h1, h2⟩
theorem ZH4 {p0 p1 p2 p3 : Prop} (h0 : p0) (h1 : p1) (h2 : p2) (h3 : p3) : Hid p0 ∧ Hid p1 ∧ Hid p2 ∧ Hid p3 := ⟨h0, h1, h2, h3⟩
theorem ZH5 {p0 p1 p2 p3 p4 : Prop} (h0 : p0) (h1 : p1) (h2 : p2) (h3 : p3) (h4 : p4) : Hid p0 ∧ Hid p1 ∧ Hid p2 ∧ Hid p3 ∧ Hid p4 := ⟨h0, h1, h2, h3, h4⟩
theorem ZH6 {p0 p1 p2 p3 p4 p5 : Prop} (h0 : p0) (h1 : p1) (h2 : p2) (h3 : p3) (h4 : p4) (h5 : p5) : Hid p0 ∧ Hid p1 ∧ Hid p2 ∧ Hid p3 ∧ Hid p4 ∧ Hid p5 := ⟨h0, h1, h2, h3, h4, h5⟩
theorem ZH7 {p0 p1 p2 p3 p4 p5 p6 : Prop} (h0 : p0) (h1 : p1) (h2 : p2) (h3 : p3) (h4 : p4) (h5 : p5) (h6 : p6) : Hid p0 ∧ Hid p1 ∧ Hid p2 ∧ Hid p3 ∧ Hid p4 ∧ Hid p5 ∧ Hid p6 := ⟨h0, h1, h2, h3, h4, h5, h6⟩
theorem ZH8 {p0 p1 p2 p3 p4 p5 p6 p7 : Prop} (h0 : p0) (h1 : p1) (h2 : p2) (h3 : p3) (h4 : p4) (h5 : p5) (h6 : p6) (h7 : p7) : Hid p0 ∧ Hid p1 ∧ Hid p2 ∧ Hid p3 ∧ Hid p4 ∧ Hid p5 ∧ Hid p6 ∧ Hid p7 := ⟨h0, h1, h2, h3, h4, h5, h6, h7⟩
theorem ZH9 {p0 p1 p2 p3 p4 p5 p6 p7 p8 : Prop} (h0 : p0) (h1 : p1) (h2 : p2) (h3 : p3) (h4 : p4) (h5 : p5) (h6 : p6) (h7 : p7) (h8 : p8) : Hid p0 ∧ Hid p1 ∧ Hid p2 ∧ Hid p3 ∧ Hid p4 ∧ Hid p5 ∧ Hid p6 ∧ Hid p7 ∧ Hid p8 := ⟨h0, h1, h2, h3, h4, h5, h6, h7, h8⟩
variable{B b base c cap g i k n pb pe pu x:Nat}{P:Program}{Q:Exit->Act->World->Prop}{S:World->Prop}{a:Act}{e t:TypeId}{l:List Nat}{o:Oper}{r:List (Nat×Nat)}{v:Value}{w w':World}
structure Clk where
 c0:Nat
 c1:Nat
 c2:Nat
 c3:Nat
 c4:Nat
 deriving DecidableEq
def ZCz:Clk:=⟨0,0,0,0,0⟩
def Clk.get(c:Clk):Nat->Nat
 | 0=>c.c0
 | 1=>c.c1
 | 2=>c.c2
 | 3=>c.c3
 | 4=>c.c4
 |_=>0
def Clk.set(c:Clk):Nat->Nat->Clk
 | 0,n=>{ c with c0:=n }
 | 1,n=>{ c with c1:=n }
 | 2,n=>{ c with c2:=n }
 | 3,n=>{ c with c3:=n }
 | 4,n=>{ c with c4:=n }
 |_,_=>c
structure Ev where
 r:Nat
 n:Nat
 ctx:Clk
 height:Nat
 kind:Nat
 key:ByteArray
 label:Nat
 value:ByteArray
def KeyOk(k:ByteArray):Prop:=1<=k.size/\k.size<=8/\∀i (h:i<k.size),97<=(k[i]).toNat/\(k[i]).toNat<=122
structure EditOk(kind:Nat)(key:ByteArray)(label:Nat)(value:ByteArray):Prop where
 kind1:1<=kind
 kind5:kind<=5
 key:KeyOk key
 short:kind<=2->label=0/\value=ByteArray.empty
 long:2<kind->label<=1/\1<=value.size/\value.size<=12
structure Ev.Ok(e:Ev):Prop where
 r:e.r<5
 n1:1<=e.n
 n2:e.n<=1048576
 h1:1<=e.height
 h2:e.height<=16777216
 ctx:∀i,e.ctx.get i<=1048576
 own:e.ctx.get e.r+1=e.n
 edit:EditOk e.kind e.key e.label e.value
theorem Clk.aC(c:Clk)(h:5<=i):c.get i=0:=by
 match i,h with
 |_+5,_=>rfl
def Zd(n:Nat):List Nat:=if n<128 then [n] else(n%128+128)::Zd (n / 128)
 termination_by n
 decreasing_by omega
theorem ZdU(h:n<128):Zd n=[n]:=by rw[Zd,ZPp h]
theorem Zei(h:128<=n):Zd n=(n%128+128)::Zd (n / 128):=by rw[Zd,ZPn ZO]
theorem Zac(n:Nat):0<(Zd n).length:=by
 by_cases h:n<128
 ·rw[ZdU h];simp
 ·rw[Zei ZO];simp
theorem Zab:∀(k n:Nat),n<128 ^ (k+1)->(Zd n).length<=k+1
 | 0,n,h=>by rw[ZdU (by simpa using h)];simp
 |k+1,n,h=>by
  by_cases h1:n<128
  ·rw[ZdU h1];simp
  ·rw[Zei ZO];have:=Zab k (n / 128) (by rw[Nat.div_lt_iff_lt_mul ZO];rw[Nat.pow_succ]at h;exact h);simp;omega
theorem Zm4(h:n<18446744073709551616):(Zd n).length<=10:=Zab 9 n ZO
theorem ZaH:∀(n:Nat),∀x∈Zd n,x<256:=by
 intro n
 induction n using Nat.strongRecOn with
 |ind n ih =>
  intro x hx;by_cases h:n<128
  ·rw[ZdU h]at hx;simp at hx;omega
  ·rw[Zei ZO]at hx;rcases List.mem_cons.1 hx with rfl|hx
   ·omega
   ·exact ih (n / 128) ZO x hx
def val:List Nat->Nat
 | []=>0
 |c::l=>c%128+128*val l
theorem Zju:∀(l:List Nat) (c:Nat),val (l++[c])=val l+c%128*128 ^ l.length
 | [],c=>by simp[val]
 |x::l,c=>by
  have ih:=Zju l c;simp only[List.cons_append,val,ih,List.length_cons,Nat.pow_succ,Nat.mul_add];have:128*(c%128*128 ^ l.length)=c%128*(128 ^ l.length*128):=by
   rw[Nat.mul_left_comm,Nat.mul_comm 128 (128 ^ _)]
  omega
theorem Znk:∀(l:List Nat),val l<128 ^ l.length
 | []=>by simp[val]
 |c::l=>by
  have ih:=Znk l;simp only[val,List.length_cons,Nat.pow_succ];have:=Nat.mod_lt c (show 128>0 by omega);omega
theorem ZoF:∀(n:Nat),val (Zd n)=n:=by
 intro n
 induction n using Nat.strongRecOn with
 |ind n ih =>
  by_cases h:n<128
  ·rw[ZdU h];simp[val];omega
  ·rw[Zei ZO,val,ih (n / 128) ZO];omega
def Zul(l:List Nat):Prop:=∀i,i+1<l.length->128<=l.getD i 0
theorem Zm5:∀(n:Nat),Zul (Zd n):=by
 intro n
 induction n using Nat.strongRecOn with
 |ind n ih =>
  intro i hi;by_cases h:n<128
  ·rw[ZdU h]at hi;simp at hi
  ·rw[Zei ZO]at hi ⊢
   cases i with
   |zero=>simp
   |succ i=>simp only[List.getD_cons_succ];exact ih (n / 128) ZO i (by simpa using hi)
theorem ZsC:∀(n:Nat),(Zd n).getD ((Zd n).length-1) 0<128/\(1<(Zd n).length->(Zd n).getD ((Zd n).length-1) 0≠0):=by
 intro n
 induction n using Nat.strongRecOn with
 |ind n ih =>
  by_cases h:n<128
  ·rw[ZdU h];simp;exact h
  ·have hp:=Zac (n / 128);obtain⟨h1,h2⟩:=ih (n / 128) ZO;rw[Zei ZO];have e:(Zd (n / 128)).length=(Zd (n / 128)).length-1+1:=ZO;simp only[List.length_cons,Nat.add_sub_cancel];rw[e,List.getD_cons_succ];refine⟨h1,λ_=>?_⟩;by_cases hl:1<(Zd (n / 128)).length
   ·exact h2 hl
   ·by_cases h3:n / 128<128
    ·rw[ZdU h3];simp;omega
    ·rw[Zei ZO]at hl;have:=Zac (n / 128 / 128);simp at hl;rw[hl]at this;simp at this
def Zdv(l:List Nat):Nat×Nat×Nat :=
 let k:=l.findIdx (λc=>decide (c<128))
 if k=l.length then(0,0,if l.length=10 then 3 else 2)
 else if (0<k/\l.getD k 0=0)∨(k=9/\1<l.getD k 0) then(0,0,3)
 else(val (l.take (k+1)),k+1,0)
theorem Zqz(h:∀j,j<l.length->128<=l.getD j 0):l.findIdx (λc=>decide (c<128))=l.length:=by
 rw[List.findIdx_eq_length];intro x hx;obtain⟨j,hj,rfl⟩:=List.getElem_of_mem hx;have:=h j hj;simp[List.getD,hj]at this;simpa using this
theorem Zk3(hk:k<l.length)(h:∀j,j<k->128<=l.getD j 0)(hc:l.getD k 0<128):l.findIdx (λc=>decide (c<128))=k:=by
 rw[List.findIdx_eq hk];refine⟨by simpa [List.getD,hk] using hc,λj hj=>?_⟩;have:=h j hj;have GT:j<l.length:=ZO;simp[List.getD,GT]at this;simpa using this
theorem Zft(h:∀j,j<l.length->128<=l.getD j 0):Zdv l=(0,0,if l.length=10 then 3 else 2):=by
 simp only[Zdv,Zqz h,if_true]
theorem ZlE(hk:k<l.length)(h:∀j,j<k->128<=l.getD j 0)(hc:l.getD k 0<128)(hb:(0<k/\l.getD k 0=0)∨(k=9/\1<l.getD k 0)):Zdv l=(0,0,3):=by
 simp only[Zdv,Zk3 hk h hc];rw[ZPn ZO,ZPp hb]
theorem Zhj(hk:k<l.length)(h:∀j,j<k->128<=l.getD j 0)(hc:l.getD k 0<128)(hb:¬((0<k/\l.getD k 0=0)∨(k=9/\1<l.getD k 0))):Zdv l=(val (l.take (k+1)),k+1,0):=by
 simp only[Zdv,Zk3 hk h hc];rw[ZPn ZO,ZPn hb]
theorem Zkj(h:k<l.length):l.take (k+1)=l.take k++[l.getD k 0]:=by
 rw[List.take_succ_eq_append_getElem h];simp[List.getD,h]
theorem Zhz(h:k<l.length):val (l.take (k+1))=val (l.take k)+l.getD k 0%128*128 ^ k:=by
 rw[Zkj h,Zju,ZV];congr 3;omega
theorem ZoA(k:Nat):128 ^ k=2 ^ (7*k):=by rw[Nat.pow_mul]
theorem ZuI{X d:Nat}(hX:X<128 ^ k):X ||| d*128 ^ k=X+d*128 ^ k:=by
 rw[ZoA]at *;rw[Nat.or_comm,Nat.mul_comm d,←Nat.two_pow_add_eq_or_of_lt hX d,Nat.add_comm]
theorem Zsy(hk:k<=9):128 ^ k<=9223372036854775808:=by
 have h:(128:Nat) ^ k<=128 ^ 9:=Nat.pow_le_pow_right ZO hk;simpa using h
theorem ZpR{d:Nat}(h:(k<=8/\d<128)∨(k=9/\d<=1)):d*128 ^ k<18446744073709551616:=by
 rcases h with ⟨hk,hd⟩|⟨rfl,hd⟩
 ·have h1:(128:Nat) ^ k<=128 ^ 8:=Nat.pow_le_pow_right ZO hk;have h2:d*128 ^ k<=127*128 ^ 8:=Nat.mul_le_mul ZO h1;omega
 ·omega
theorem Zis{X d:Nat}(hX:X<128 ^ k)(h:(k<=8/\d<128)∨(k=9/\d<=1)):bits .or .u64 (X:Int) (IntKind.u64.wrap ((d:Int)*2 ^ (7*k)))=((X+d*128 ^ k:Nat):Int):=by
 have hf:=ZpR h;have e:(d:Int)*2 ^ (7*k)=((d*128 ^ k:Nat):Int):=by rw[ZoA];simp
 have hk:k<=9:=ZO;have hp:=Zsy hk;rw[e,IntKind.wrap_u64,Int.emod_eq_of_lt ZO ZO,u64_or_nat _ _ ZO hf,ZuI hX]
theorem Zoy(X:Nat)(y:Int):∃Z:Nat,bits .or .u64 (X:Int) (IntKind.u64.wrap y)=(Z:Int):=by
 have h:0<=bits .or .u64 (X:Int) (IntKind.u64.wrap y):=by
  show 0<=IntKind.u64.wrap _
  rw[IntKind.wrap_u64];omega
 exact Int.eq_ofNat_of_zero_le h
theorem Zc9(n:Nat)(rest:List Nat)(hn:n<18446744073709551616):Zdv ((Zd n++rest).take 10)=(n,(Zd n).length,0):=by
 have hp:=Zac n;have vI:=Zm4 hn;have Cu:=ZsC n;have ie:=Zm5 n;have g:∀j,j<(Zd n).length->((Zd n++rest).take 10).getD j 0=(Zd n).getD j 0:=by
  intro j hj;have QT:j<10:=ZO;simp[List.getD,QT,List.getElem?_append,hj]
 have hlen:(Zd n).length-1<((Zd n++rest).take 10).length:=by rw[ZV,ZI];omega
 have e1:(Zd n).length-1+1=(Zd n).length:=ZO;have e2:((Zd n++rest).take 10).take (Zd n).length=Zd n:=by
  rw[List.take_take,Nat.min_eq_left vI,List.take_left]
 have key:=Zhj (l:=(Zd n++rest).take 10) (k:=(Zd n).length-1) hlen (λj hj=>by rw[g j ZO];exact ie j ZO) (by rw[g _ ZO];exact Cu.1) (by
  rw[g _ ZO];rintro(⟨h1,h2⟩|⟨h1,h2⟩)
  ·exact Cu.2 ZO h2
  ·have hv:=ZoF n;have hs:Zd n=(Zd n).take ((Zd n).length-1)++[(Zd n).getD ((Zd n).length-1) 0]:=by
    rw[←Zkj ZO,e1,List.take_length]
   rw[hs,Zju,ZV,Nat.min_eq_left ZO]at hv;have h3:(Zd n).getD ((Zd n).length-1) 0%128=(Zd n).getD ((Zd n).length-1) 0:=Nat.mod_eq_of_lt Cu.1;rw[h3,h1]at hv;rw[h1]at h2;generalize (Zd n).getD 9 0=c at hv h2;have:c*128 ^ 9>=2*128 ^ 9:=Nat.mul_le_mul_right _ ZO
   omega)
 rw[e1,e2,ZoF]at key;exact key
def bs(s:ByteArray):List Nat:=s.data.toList.map UInt8.toNat
theorem Zdx(s:ByteArray):(bs s).length=s.size:=by simp[bs]
theorem Zmi(s:ByteArray):∀x∈bs s,x<256:=by
 intro x hx;simp only[bs,List.mem_map]at hx;obtain⟨y,_,rfl⟩:=hx;exact y.toNat_lt
def Zas(c:Clk)(r:Nat):Nat->List Nat
 | 0=>[]
 |k+1=>Zas c r k++if k=r then [] else Zd (c.get k)
def Zcf(e:Ev):List Nat:=if 2<e.kind then e.label::(e.value.size::bs e.value) else []
def evBytes(e:Ev):List Nat:=[e.kind,e.r]++Zd e.n++Zas e.ctx e.r 5++Zd e.height++(e.key.size::bs e.key)++Zcf e
theorem ZdH(h:n<=16777216):(Zd n).length<=4:=Zab 3 n ZO
theorem ZhN{c:Clk}(r:Nat)(h:∀i,c.get i<=1048576):∀k,(Zas c r k).length<=3*k
 | 0=>by simp[Zas]
 |k+1=>by
  have:=ZhN r h k;have h1:=Zab 2 (c.get k) (by have:=h k;omega);simp only[Zas,ZI];split <;> simp <;> omega
theorem ZiD(c:Clk)(r:Nat):∀k,∀x∈Zas c r k,x<256
 | 0,x,h=>by simp[Zas]at h
 |k+1,x,h=>by
  simp only[Zas,List.mem_append]at h;rcases h with h|h
  ·exact ZiD c r k x h
  ·split at h
   ·simp at h
   ·exact ZaH _ x h
theorem Zc2{e:Ev}(h:e.Ok):(evBytes e).length<=60:=by
 have h1:=ZdH (show e.n<=16777216 by have:=h.n2;omega);have h2:=ZdH h.h2;have h3:=ZhN e.r h.ctx 5;have h4:=h.edit.key.2.1;have h5:(Zcf e).length<=14:=by
  unfold Zcf;split
  ·have:=(h.edit.long (by assumption)).2.2;simp[Zdx];omega
  ·simp
 simp only[evBytes,ZI,List.length_cons,List.length_nil,Zdx];omega
theorem ZlK{e:Ev}(h:e.Ok):∀x∈evBytes e,x<256:=by
 have h1:=h.edit.kind5;have h2:=h.r;have h3:=h.edit.key.2.1;intro x hx;simp only[evBytes,List.mem_append,List.mem_cons,List.not_mem_nil,or_false]at hx;rcases hx with ((((hx|hx)|hx)|hx)|hx)|hx
 ·omega
 ·exact ZaH _ _ hx
 ·exact ZiD _ _ _ _ hx
 ·exact ZaH _ _ hx
 ·rcases hx with hx|hx
  ·omega
  ·exact Zmi _ _ hx
 ·unfold Zcf at hx;split at hx
  ·have:=h.edit.long (by assumption);simp only[List.mem_cons]at hx;rcases hx with hx|hx|hx
   ·omega
   ·omega
   ·exact Zmi _ _ hx
  ·simp at hx
section
theorem ZfH(a:Addr)(n:Nat):(a.add n).block=a.block:=by unfold Addr.add;split <;> rfl
theorem ZoL(a:Addr)(i j:Nat):(a.add i).add j=a.add (i+j):=by
 unfold Addr.add;by_cases hi:i=0 <;> by_cases hj:j=0 <;> simp[hi,hj,Nat.add_assoc]
def Reads(w:World)(B size:Nat)(A:Option Addr)(n:Nat)(xs:List Value):Prop :=
 xs.length=n*size/\(0<n->∃ad,A=some ad/\ad.block<B/\∀j u,xs[j]? = some u->w.cell? (ad.add j)=some u)
section
variable {w w':World}{B B' size n:Nat}{A:Option Addr}{xs:List Value}
theorem Reads.none_:Reads w B size A 0 []:=⟨ZM,λh=>absurd h ZO⟩
theorem Reads.keep(h:Reads w B size A n xs)(hk:∀p:Addr,p.block<B->w'.cell? p=w.cell? p):Reads w' B size A n xs :=
 ⟨h.1,λhn=>by
  obtain⟨ad,e,hb,hc⟩:=h.2 hn
  exact⟨ad,e,hb,λj u hu=>(hk _ (by rw[ZfH];exact hb)).trans (hc j u hu)⟩⟩
theorem Reads.more(h:Reads w B size A n xs)(hB:B<=B'):Reads w B' size A n xs :=
 ⟨h.1,λhn=>by
  obtain⟨ad,e,hb,hc⟩:=h.2 hn
  exact⟨ad,e,ZO,hc⟩⟩
theorem Reads.below(h:Reads w B size A n xs)(hb:Below B w w'):Reads w' B size A n xs:=h.keep λ_ hp=>hb.cell hp
theorem Reads.alloc(h:Reads w B size A n xs)(hB:B<=w.heap.size)(o:Obj):Reads (w.alloc o) B size A n xs:=h.keep λp hp=>World.cell?_alloc_lt w o p ZO
theorem Reads.ae(h:w.ownsRow base e size (S_ A n c) n xs):Reads w w.heap.size size A n xs:=by
 refine⟨h.1,λhn=>?_⟩;obtain⟨g,cap,hv,_,cI⟩:=h.form hn;have hA:A=some ⟨g,0,none⟩:=by injection hv
 subst hA;exact⟨_,rfl,cI,h.cells (g:=g) rfl⟩
end
def Blk(w:World)(g:Nat)(t:TypeId)(cs:Array Value):Prop:=w.heap[g]? = some (C_ cs t (0,0))
section
variable {w w':World}{g:Nat}{t:TypeId}{cs:Array Value}
theorem Blk.lt(h:Blk w g t cs):g<w.heap.size:=by
 rcases Nat.lt_or_ge g w.heap.size with cI|lr
 ·exact cI
 ·unfold Blk at h;rw[Array.getElem?_eq_none lr]at h;cases h
theorem Blk.cell(h:Blk w g t cs)(i:Nat):w.cell? ⟨g,i,none⟩=cs[i]? := cell_of_row w g i cs t (0,0) h
theorem Blk.frozen(h:Blk w g t cs)(i:Nat):w.frozen? ⟨g,i,none⟩=false:=by
 unfold Blk at h;simp[World.frozen?,h]
theorem Blk.new(w:World)(t:TypeId)(cs:Array Value):Blk (w.alloc (C_ cs t)) w.heap.size t cs:=heap_alloc_new w _
abbrev ZBn:=@Blk.new
theorem Blk.drew(h:Blk w g t cs):Blk w.drew g t cs:=h
theorem Blk.drewN(h:Blk w g t cs)(n:Nat):Blk (w.drewN n) g t cs:=h
theorem Blk.alloc(h:Blk w g t cs)(o:Obj):Blk (w.alloc o) g t cs:=(Below.heap_alloc w o g h.lt).trans h
theorem Blk.aj(h:Blk w g t cs)(i:Nat)(u:Value):Blk (w.setCell ⟨g,i,none⟩ u) g t (cs.setIfInBounds i u):=by
 unfold Blk at h ⊢;simp[World.setCell,Array.getElem?_modify,h]
theorem Blk.far(h:Blk w g t cs){p:Addr}(hp:g≠p.block)(u:Value):Blk (w.setCell p u) g t cs:=(Below.heap_setCell w p u g hp).trans h
theorem Blk.below{B:Nat}(h:Blk w g t cs)(hb:Below B w w')(hg:g<B):Blk w' g t cs:=(hb.block g hg).trans h
theorem Blk.grown{row:Option Nat}(h:Blk w g t cs)(hb:w.grownBy w' row)(hg:some g≠row):Blk w' g t cs:=(hb.block g h.lt hg).trans h
theorem Blk.cm{g':Nat}{t':TypeId}{xC:Array Value}(h:Blk w g t cs)(h':Blk w g' t' xC)(dR:t≠t'):g≠g':=by
 rintro rfl;unfold Blk at h h';rw[h]at h';injection h' with h';injection h' with _ ht;exact dR ht
theorem Zr{size:Nat}{xs:List Value}(h:w.ownsRow base e size v n xs)(hg:Blk w g t cs)(dR:e≠t):v.ownBlock≠some g:=by
 rcases h.2 with ⟨rfl,_⟩|⟨g',cap,cur,rfl,_,hh,_⟩
 ·simp[Value.ownBlock]
 ·intro he;have:g'=g:=by simpa [Value.ownBlock] using he
  subst this;exact Blk.cm (t:=e) hh hg dR rfl
end
theorem ZoO{W w1:World}(hb:L_ W w1):(∀b o,b<W.heap.size->w1.cell? ⟨b,o,none⟩=W.cell? ⟨b,o,none⟩)/\(∀b o,b<W.heap.size->w1.frozen? ⟨b,o,none⟩=W.frozen? ⟨b,o,none⟩) :=
 ⟨λb o h=>hb.cell (p:=⟨b,o,none⟩) h,λb o h=>hb.frozen (p:=⟨b,o,none⟩) h⟩
structure Kept(B:Nat)(w w':World):Prop where
 below:Below B w w'
 le:B<=w'.heap.size
abbrev K_(v w:World):Prop:=Kept v.heap.size v w
theorem Kept.start(h:L_ w w'):K_ w w':=⟨h,h.size⟩
theorem Kept.drew{B:Nat}{w w':World}(h:Kept B w w'):Kept B w w'.drew:=⟨h.below.drew,h.le⟩
theorem Kept.drewN{B:Nat}{w w':World}(h:Kept B w w')(n:Nat):Kept B w (w'.drewN n):=⟨⟨h.below.os,h.below.tape,h.below.output,h.below.size,h.below.block⟩,h.le⟩
theorem Kept.alloc{B:Nat}{w w':World}(h:Kept B w w')(o:Obj):Kept B w (w'.alloc o):=⟨h.below.alloc h.le o,by have:=h.le;simp;omega⟩
theorem Kept.setCell{B:Nat}{w w':World}(h:Kept B w w'){p:Addr}(hp:B<=p.block)(u:Value):Kept B w (w'.setCell p u):=⟨h.below.setCell hp u,by have:=h.le;simpa [World.setCell] using this⟩
theorem Kept.step{Av:World}(h:Kept B w w')(g:L_ w' Av):Kept B w Av:=⟨h.below.trans (g.mono h.le),ZT h.le g.size⟩
theorem Kept.trans{B B':Nat}{w w' Av:World}(h:Kept B w w')(g:Kept B' w' Av)(hB:B<=B'):Kept B w Av:=⟨h.below.trans (g.below.mono hB),ZT hB g.le⟩
theorem Kept.cells(h:Kept B w w'):∀b o,b<B->w'.cell? ⟨b,o,none⟩=w.cell? ⟨b,o,none⟩:=λb o hb=>h.below.cell (p:=⟨b,o,none⟩) hb
theorem Zuc{k:IntKind}{a b:Int}(h:a=b):Ending.returned (.int k a)=R_ (.int k b):=by rw[h]
end
section
section
variable {P:Program}(w:World)
theorem Ziy(base:Nat)(t ty e:TypeId)(i:TypeInfo)(size:Nat)(ht:P.underlying t=some (.slice e))(hi:P.info? e=some i)
  (v:Value) (n:Nat) (xs:List Value) (dk:w.ownsRow base e size v n xs) (c:Nat):(Builtin.append_ #[t,t] ty #[v,S_ none 0 c]).run P w=.ok v w:=by
 rcases dk.2 with ⟨rfl,rfl⟩|⟨g,cap,cur,rfl,_,_,fp,_⟩
 ·simp[Builtin.append_,run_underlying ht,sizeOf,typeInfo,hi,Builtin.lenOf,Builtin.firstCells]
 ·simp[Builtin.append_,run_underlying ht,sizeOf,typeInfo,hi,Builtin.lenOf,Builtin.firstCells,fp,storeCells]
theorem ZkM(base:Nat)(t ty e:TypeId)(i:TypeInfo)(z:Value)(size bytes:Nat)(ht:P.underlying t=some (.slice e))(hi:P.info? e=some i)(hz:i.zero=some z)
  (lC:i.size=size) (gF:i.bytes=bytes) (I9:z.cells.size=size) (dS:0<size)
  (v:Value) (n:Nat) (xs:List Value) (dk:w.ownsRow base e size v n xs)
  (B:Nat) (A:Option Addr) (m c:Nat) (news:List Value) (hr:Reads w B size A m news) (h1:∀u∈news,u.oneCell'=true)
  (DM:n+m<=maxLen) (kL:(n+m)*bytes<=140737488355328) (py:base<=w.heap.size) :
  ∃v' w',(Builtin.append_ #[t,t] ty #[v,S_ A m c]).run P w=.ok v' w'/\w'.ownsRow base e size v' (n+m) (xs++news)/\w.grownBy w' v.ownBlock /\
   (v'.ownBlock=v.ownBlock∨v'.ownBlock=some w.heap.size):=by
 rcases A with _|ad
 ·have hm:m=0:=by
   rcases Nat.eq_zero_or_pos m with h0|h0
   ·exact h0
   ·obtain⟨ad,h,_⟩:=hr.2 h0
    cases h
  subst hm;have hn:news=[]:=List.eq_nil_of_length_eq_zero (by simpa using hr.1);subst hn;exact⟨v,w,Ziy w base t ty e i size ht hi v n xs dk c,by simpa using dk,World.grownBy.refl w _,.inl rfl⟩
 ·have mC:∀j u,news[j]? = some u->w.cell? (ad.add j)=some u:=by
   intro j u hu;rcases Nat.eq_zero_or_pos m with h0|h0
   ·subst h0;have hn:news=[]:=List.eq_nil_of_length_eq_zero (by simpa using hr.1);subst hn;simp at hu
   ·obtain⟨ad',h,_,hc⟩:=hr.2 h0;injection h with h;subst h;exact hc j u hu
  obtain⟨v',w',eV,h2,h3,_,h5⟩:=run_append_own_at (P:=P) w base t ty e i z size bytes ht hi hz lC gF I9 dS v n xs dk ad m c news hr.1 mC h1 DM kL py;exact⟨v',w',eV,h2,h3,h5⟩
theorem Za9{a:Act}{K:Act->World->Prop}{Q:Exit->Act->World->Prop}(s x:Operand)(t:TypeId)
  (ho:o.op=.call { callee := .builtin .append,args:=#[s,x],argTypes:=#[t,t] })
  (base:Nat) (e:TypeId) (i:TypeInfo) (z:Value) (size bytes:Nat) (ht:P.underlying t=some (.slice e)) (hi:P.info? e=some i) (hz:i.zero=some z)
  (lC:i.size=size) (gF:i.bytes=bytes) (I9:z.cells.size=size) (dS:0<size)
  (v:Value) (n:Nat) (xs:List Value) (hs:a.eval s=v) (dk:w.ownsRow base e size v n xs)
  (B:Nat) (A:Option Addr) (m c:Nat) (news:List Value) (hx:a.eval x=S_ A m c) (hr:Reads w B size A m news) (h1:∀u∈news,u.oneCell'=true)
  (DM:n+m<=maxLen) (kL:(n+m)*bytes<=140737488355328) (py:base<=w.heap.size)
  (h:∀v' w',w'.ownsRow base e size v' (n+m) (xs++news)->w.grownBy w' v.ownBlock->(v'.ownBlock=v.ownBlock∨v'.ownBlock=some w.heap.size)->K (a.put o.dst v') w'):o.wp P a w K Q:=by
 obtain⟨v',w',eV,h2,h3,h4⟩:=ZkM (P:=P) w base t o.type e i z size bytes ht hi hz lC gF I9 dS v n xs dk B A m c news hr h1 DM kL py;unfold Oper.wp execOp;simp only[ho,resolve,invoke,builtin,Sem.run_bind,Sem.run_pure,Result.andThen_ok,List.map_toArray,List.map_cons,List.map_nil,hs,hx,eV];exact h v' w' h2 h3 h4
theorem Zc{cQ:Array Oper}{rest:List Oper}{a:Act}{Q:Exit->Act->World->Prop}(rD:o.guard=none)(s x:Operand)(t:TypeId)
  (ho:o.op=.call { callee := .builtin .append,args:=#[s,x],argTypes:=#[t,t] })
  (base:Nat) (e:TypeId) (i:TypeInfo) (z:Value) (size bytes:Nat) (ht:P.underlying t=some (.slice e)) (hi:P.info? e=some i) (hz:i.zero=some z)
  (lC:i.size=size) (gF:i.bytes=bytes) (I9:z.cells.size=size) (dS:0<size)
  (v:Value) (n:Nat) (xs:List Value) (hs:a.eval s=v) (dk:w.ownsRow base e size v n xs)
  (B:Nat) (A:Option Addr) (m c:Nat) (news:List Value) (hx:a.eval x=S_ A m c) (hr:Reads w B size A m news) (h1:∀u∈news,u.oneCell'=true)
  (DM:n+m<=maxLen) (kL:(n+m)*bytes<=140737488355328) (py:base<=w.heap.size)
  (h:∀v' w',w'.ownsRow base e size v' (n+m) (xs++news)->w.grownBy w' v.ownBlock->(v'.ownBlock=v.ownBlock∨v'.ownBlock=some w.heap.size)->wpList P cQ Q rest (a.put o.dst v') w'):wpList P cQ Q (o::rest) a w :=
 wpList_plain rD λ_ hK=>Za9 w s x t ho base e i z size bytes ht hi hz lC gF I9 dS v n xs hs dk B A m c news hx hr h1 DM kL py λv' w' h2 h3 h4=>hK _ _ (h v' w' h2 h3 h4)
end
end
abbrev i64(n:Nat):Value := I_ J_ (n:Int)
abbrev Zfz(kind:Nat)(key:ByteArray)(label:Nat)(value:ByteArray):Value := .agg #[I_ J_ kind,T_ key,I_ J_ label,T_ value]
abbrev Zbh(c:Clk):Value := .agg #[I_ J_ c.c0,I_ J_ c.c1,I_ J_ c.c2,I_ J_ c.c3,I_ J_ c.c4]
abbrev Zaj(e:Ev):Value := .agg #[I_ J_ e.r,I_ J_ e.n,I_ J_ e.ctx.c0,I_ J_ e.ctx.c1,I_ J_ e.ctx.c2,I_ J_ e.ctx.c3,I_ J_ e.ctx.c4,I_ J_ e.height,I_ J_ e.kind,T_ e.key,I_ J_ e.label,T_ e.value]
def Zx(v:Value)(w:World)(e:Ending)(w':World):Prop:=e=R_ v/\L_ w w'
theorem Zhn(n lo hi:Int)(w:World)(h1:lo<=n)(h2:n<=hi):
  Calls prog 190 #[I_ J_ n,I_ J_ lo,I_ J_ hi] w λe w'=>e=R_ (B_ true)/\w=w':=by
 go_enter func190,ntmps190;go_wp2
 go_ret;exact⟨rfl,rfl⟩
theorem ZmJ(k:ByteArray)(w:World)(h:KeyOk k):Calls prog 147 #[T_ k] w (Zx (I_ J_ 0) w):=by
 obtain⟨h1,h8,hk⟩:=h;have HK:=ZH hk;clear hk;go_enter func147,ntmps147;go_wp2_with fail;go_loopw [4] (λ_ wr=>∃pos:Nat,pos<=k.size/\wr=w.iter k pos) (λ_ wr=>k.size-wr.iterPos w.heap.size)
 case atStart=>exact⟨0,ZO,rfl⟩
 case round =>
  obtain⟨pos,hp,rfl⟩:=hrel;by_cases cI:pos<k.size
  ·have hc:=HK.out pos cI;have na:=λty=>run_next_ascii (P:=prog) w k pos ty cI ZO
   have ha:(97:Int)<=((k[pos]).toNat:Int):=ZO;have hb:((k[pos]).toNat:Int)<=122:=ZO;go_wp2
   go_roundw
   case rel=>exact⟨pos+1,ZO,rfl⟩
   case measure=>simp[World.iterPos,World.iter_heap];omega
  ·obtain rfl:pos=k.size:=ZO;have na:=λty=>run_next_end (P:=prog) w k k.size ty ZO
   go_wp2
   go_ret;exact⟨rfl,(ZW _ _).alloc (ZL _) _⟩
theorem Zsh(n:Nat)(w:World)(h:n<=1):Calls prog 148 #[I_ J_ n] w λe w'=>e=R_ (I_ J_ 0)/\w=w':=by
 go_enter func148,ntmps148;go_wp2
 go_ret;exact⟨rfl,rfl⟩
theorem Znl(v:ByteArray)(w:World)(h1:1<=v.size)(h2:v.size<=12):Calls prog 149 #[T_ v] w λe w'=>e=R_ (I_ J_ 0)/\w=w':=by
 go_enter func149,ntmps149;go_wp2
 go_ret;exact⟨rfl,rfl⟩
theorem Zon(kind:Nat)(key:ByteArray)(label:Nat)(value:ByteArray)(w:World)(h:EditOk kind key label value):
  Calls prog 106 #[Zfz kind key label value] w (Zx (I_ J_ 0) w):=by
 obtain⟨h1,h5,hk,hs,hl⟩:=h;have HK:=ZH hk;clear hk;rcases Nat.lt_or_ge 2 kind with h2|h2
 ·obtain⟨l1,l2,l3⟩:=hl h2;have n1:((kind:Int)==1)=false:=ZP;have n2:((kind:Int)==2)=false:=ZP;clear hs hl;go_enter func106,ntmps106;go_wp2_with fail;refine(ZmJ key _ HK.out).mono ?_;rintro e w1 ⟨rfl,cz⟩;obtain⟨hc,hf⟩:=ZoO cz;have dI:K_ w w1:=((Kept.start (ZW w.heap.size w)).alloc _).step cz;go_wp2_with fail;refine(Zsh label _ l1).mono ?_;rintro e w2 ⟨rfl,rfl⟩;go_wp2_with fail;refine(Znl value _ l2 l3).mono ?_;rintro e w2 ⟨rfl,rfl⟩;go_wp2
  go_ret;exact⟨rfl,dI.below⟩
 ·obtain⟨rfl,rfl⟩:=hs h2;clear hl hs;rcases(by omega:kind=1∨kind=2) with rfl|rfl
  all_goals
   go_enter func106,ntmps106;go_wp2_with fail;refine(ZmJ key _ HK.out).mono ?_;rintro e w1 ⟨rfl,cz⟩;obtain⟨hc,hf⟩:=ZoO cz;have dI:K_ w w1:=((Kept.start (ZW w.heap.size w)).alloc _).step cz;go_wp2
   go_ret;exact⟨rfl,dI.below⟩
theorem Zu4{α : Type}(f:Nat -> α)(c:Clk)(i:Nat)(hi:i<5):[f c.c0,f c.c1,f c.c2,f c.c3,f c.c4][i]? = some (f (c.get i)):=by
 match i,hi with
 | 0,_=>rfl
 | 1,_=>rfl
 | 2,_=>rfl
 | 3,_=>rfl
 | 4,_=>rfl
theorem Zuq(w:World)(e:Ev)(i:Nat)(hi:i<5):(w.alloc (C_ #[I_ J_ e.r,I_ J_ e.n,I_ J_ e.ctx.c0,I_ J_ e.ctx.c1,I_ J_ e.ctx.c2,I_ J_ e.ctx.c3,I_ J_ e.ctx.c4,I_ J_ e.height,I_ J_ e.kind,T_ e.key,I_ J_ e.label,T_ e.value] 89)).cell? ⟨w.heap.size,2+i,none⟩=some (i64 (e.ctx.get i)):=by
 rw[(ZBn w 89 _).cell]
 match i,hi with
 | 0,_=>rfl
 | 1,_=>rfl
 | 2,_=>rfl
 | 3,_=>rfl
 | 4,_=>rfl
theorem Ztn:(prog.info? 3).map (λi=>(i.zero,i.size,i.bytes))=some (some (I_ J_ 0),1,8):=ZK
theorem Zao(c:Clk)(k:Nat)(hk:k<5)(w:World):(Instr.index 44 (Zbh c) (I_ J_ (k:Int))).run prog w=.ok (i64 (c.get k)) w:=by
 obtain⟨i0,hi,dd,cV,dc⟩:=info_parts Ztn;have hu:=run_underlying (w:=w) underlying44
 match k,hk with
 | 0,_=>simp[Instr.index,go_sem,hu,hi,cV,part,isAgg,sizeOf,typeInfo,Clk.get,asIntOf]
 | 1,_=>simp[Instr.index,go_sem,hu,hi,cV,part,isAgg,sizeOf,typeInfo,Clk.get,asIntOf]
 | 2,_=>simp[Instr.index,go_sem,hu,hi,cV,part,isAgg,sizeOf,typeInfo,Clk.get,asIntOf]
 | 3,_=>simp[Instr.index,go_sem,hu,hi,cV,part,isAgg,sizeOf,typeInfo,Clk.get,asIntOf]
 | 4,_=>simp[Instr.index,go_sem,hu,hi,cV,part,isAgg,sizeOf,typeInfo,Clk.get,asIntOf]
theorem Ze5(e:Ev)(w:World)(h:e.Ok):Calls prog 161 #[Zaj e] w (Zx (I_ J_ 0) w):=by
 obtain⟨g0,g1,g2,g3,g4,g5,g6,g7⟩:=h;have cB:=Zuq w e e.r g0;obtain⟨HE,H5⟩:=ZH2 g7 g5;clear g7 g5;have hd:(((e.ctx.get e.r:Nat):Int) != (e.n:Int)-1)=false:=by rw[bne_eq_false_iff_eq];omega
 go_enter func161,ntmps161;go_wp2_with (go_at_call 190;refine(Zhn _ _ _ _ ZO ZO).mono ?_;rintro e w' ⟨rfl,rfl⟩)
 go_loop [4,23] (λ_ i=>∃k:Nat,k<=5/\i=I_ J_ k) (λ_ i=>5-(intOf i).toNat)
 case atStart=>exact⟨0,ZO,rfl⟩
 case round =>
  obtain⟨k,hk,rfl⟩:=hrel;by_cases eM:k<5
  ·have kF:=λw=>Zao e.ctx k eM w
   have hm:=H5.out k;go_wp2_with (go_at_call 190;refine(Zhn _ _ _ _ ZO ZO).mono ?_;rintro e w' ⟨rfl,rfl⟩)
   go_round
   case rel=>exact⟨k+1,ZO,ZN⟩
   case measure=>simp[intOf];omega
  ·obtain rfl:k=5:=ZO;go_wp2_with fail;go_quiet (fail)
   go_wp2_with fail;refine(Zon e.kind e.key e.label e.value _ HE.out).mono ?_;rintro e2 w2 ⟨rfl,cD⟩;go_wp2
   go_ret;exact⟨rfl,((((Kept.start (ZW w.heap.size w)).alloc _).drewN nq).step cD).below⟩
def cells(bs:List Nat):List Value:=bs.map λx:Nat => .int .u8 (x:Int)
def str(bs:List Nat):ByteArray:=strOfNums (bs.map λx:Nat=>(x:Int))
theorem Zv(a b:List Nat):cells (a++b)=cells a++cells b:=by simp[cells]
theorem Zen(a:List Nat):(cells a).length=a.length:=by simp[cells]
theorem ZhI{bs:List Nat}(h:i<bs.length):(cells bs)[i]? = some (.int .u8 ((bs.getD i 0:Nat):Int)):=by
 simp[cells,List.getD,h]
theorem Z9(bs:List Nat):∀u∈cells bs,u.oneCell'=true:=by
 intro u hu;simp only[cells,List.mem_map]at hu;obtain⟨x,_,rfl⟩:=hu;rfl
def Bytes(w:World)(a:Option Addr)(n cap:Nat)(bs:List Nat):Prop :=
 n<=cap/\cap<=maxLen/\((n=0/\bs=[])∨∃b off,a=some ⟨b,off,none⟩/\b<w.heap.size/\bs.length=n/\∀i,i<n->w.cell? ⟨b,off+i,none⟩=some (.int .u8 ((bs.getD i 0:Nat):Int)))
theorem Bytes.len{a:Option Addr}{bs:List Nat}(h:Bytes w a n cap bs):bs.length=n:=by
 rcases h.2.2 with ⟨rfl,rfl⟩|⟨_,_,_,_,h,_⟩
 ·rfl
 ·exact h
theorem Bytes.kept{a:Option Addr}{bs:List Nat}(h:Bytes w a n cap bs)(hk:Below B w w')(hB:w.heap.size<=B):Bytes w' a n cap bs:=by
 refine⟨h.1,h.2.1,?_⟩;rcases h.2.2 with h|⟨b,off,h1,h4,h5,h6⟩
 ·exact .inl h
 ·refine .inr ⟨b,off,h1,ZR h4 hk.size,h5,λi hi=>?_⟩;rw[hk.cell (p:=⟨b,_,none⟩) (by show b<B;omega)];exact h6 i hi
theorem Bytes.pos{a:Option Addr}{bs:List Nat}(h:Bytes w a n cap bs)(hn:0<n):∃b off,a=some ⟨b,off,none⟩/\b<w.heap.size/\∀i,i<n->w.cell? ⟨b,off+i,none⟩=some (.int .u8 ((bs.getD i 0:Nat):Int)):=by
 rcases h.2.2 with ⟨rfl,_⟩|⟨b,off,h1,h4,_,h6⟩
 ·omega
 ·exact⟨b,off,h1,h4,h6⟩
theorem Zih{bs:List Nat}{m:Nat}(h:i<m):(bs.take m).getD i 0=bs.getD i 0:=by simp[List.getD,h]
theorem Bytes.cut{a:Option Addr}{bs:List Nat}(h:Bytes w a n cap bs)(m:Nat)(hm:m<=n):Bytes w a m cap (bs.take m):=by
 obtain⟨g1,g2,g⟩:=h;refine⟨ZO,g2,?_⟩;rcases g with ⟨rfl,rfl⟩|⟨b,off,h1,h4,h5,h6⟩
 ·exact .inl ⟨ZO,ZM⟩
 ·refine .inr ⟨b,off,h1,h4,by rw[ZV];omega,λi hi=>?_⟩;rw[Zih hi];exact h6 i ZO
theorem Bytes.reads{a:Option Addr}{bs:List Nat}(h:Bytes w a n cap bs):Reads w w.heap.size 1 a n (cells bs):=by
 refine⟨by rw[Zen,h.len];omega,λhn=>?_⟩;obtain⟨b,off,rfl,h4,h6⟩:=h.pos hn;refine⟨_,rfl,h4,λj u hu=>?_⟩;have hl:=h.len;have hj:j<bs.length:=by
  rcases Nat.lt_or_ge j bs.length with h|h
  ·exact h
  ·rw[List.getElem?_eq_none (by rw[Zen];exact h)]at hu;cases hu
 rw[ZhI hj]at hu;have e:Addr.add ⟨b,off,none⟩ j=⟨b,off+j,none⟩:=by
  unfold Addr.add;by_cases h:j=0 <;> simp[h]
 rw[e,h6 j ZO,hu]
theorem Bytes.ae{bs:List Nat}(h:w.ownsRow base e 1 v n (cells bs)):∃a cap,v=S_ a n cap/\Bytes w a n cap bs:=by
 have hl:=h.1;rw[Zen]at hl;rcases h.2 with ⟨rfl,rfl⟩|⟨g,cap,cur,rfl,hb,hg,fp,iK,gC,ii⟩
 ·exact⟨none,0,rfl,ZL _,by unfold maxLen;omega,.inl ⟨rfl,List.eq_nil_of_length_eq_zero ZO⟩⟩
 ·refine⟨_,_,rfl,fp,iK,.inr ⟨g,0,rfl,?_,ZO,λi hi=>?_⟩⟩
  ·rcases Nat.lt_or_ge g w.heap.size with cI|lr
   ·exact cI
   ·rw[Array.getElem?_eq_none lr]at hg;cases hg
  ·have c0:=h.cellAt i ZO;rw[ZhI ZO]at c0;simp only[Nat.zero_add];exact c0
theorem Ziu{a:Option Addr}{bs:List Nat}{src:TypeId}(hs:P.underlying src=some (.slice e))(he:P.underlying e=some (.int .u8))(h:Bytes w a n cap bs):
  ∀dst,P.underlying dst=some .string->(convert src dst (S_ a n cap)).run P w=.ok (T_ (str bs)) w:=by
 rcases h.2.2 with ⟨rfl,rfl⟩|⟨b,off,rfl,h4,h5,h6⟩
 ·intro dst hd;rw[run_convert_bytes_string w src dst e _ 0 cap hs he hd]
  cases a with
  |none=>simp[Conv.bytesToString,str,strOfNums];rfl
  |some a =>
   rw[run_bytesToString w a 0 cap [] (by simp[loadCells,loadCellsFrom])];simp[str,strOfNums];rfl
 ·refine run_convert_bytes_arg w src e hs he b off n cap _ (by simp[h5]) (λi hi=>?_);rw[h6 i hi];simp[List.getD,h5,hi]
abbrev Zu2:Nat:=3988292384
def bit(x:Nat):Nat:=if x%2=1 then x / 2 ^^^ Zu2 else x / 2
def run:Nat->Nat->Nat
 | 0,x=>x
 |m+1,x=>run m (bit x)
def stepN(r c:Nat):Nat:=run 8 (r ^^^ c)
def regN(r:Nat)(l:List Nat):Nat:=l.foldl stepN r
abbrev Zds:Nat:=4294967295
def Zec(l:List Nat):Nat:=Zds-regN Zds l
def Zce(s:Nat):List Nat:=[s%256,s / 256%256,s / 65536%256,s / 16777216%256]
def ZaF(l:List Nat):List Nat:=l++Zce (Zec l)
def big:List Nat->Nat
 | []=>0
 |c::l=>c+256*big l
theorem Ztc(a b:Nat):(a ^^^ b) / 2=a / 2 ^^^ b / 2:=by
 have h:=Nat.xor_div_two_pow (a:=a) (b:=b) (n:=1);simpa using h
theorem Ztd(a b:Nat):(a ^^^ b)%2=(a%2+b%2)%2:=by
 have h:=Nat.xor_mod_two_pow (a:=a) (b:=b) (n:=1);simp at h;rw[h];rcases Nat.mod_two_eq_zero_or_one a with ha|ha <;> rcases Nat.mod_two_eq_zero_or_one b with hb|hb <;> simp[ha,hb]
theorem Zte(a b c d:Nat):(a ^^^ b) ^^^ (c ^^^ d)=(a ^^^ c) ^^^ (b ^^^ d):=by
 rw[Nat.xor_assoc,←Nat.xor_assoc b c d,Nat.xor_comm b c,Nat.xor_assoc c b d,←Nat.xor_assoc]
theorem Ztt(a b:Nat):bit (a ^^^ b)=bit a ^^^ bit b:=by
 unfold bit;rw[Ztd,Ztc];rcases Nat.mod_two_eq_zero_or_one a with ha|ha <;> rcases Nat.mod_two_eq_zero_or_one b with hb|hb <;> simp only[ha,hb]
 ·simp
 ·simp[Nat.xor_assoc]
 ·simp only[if_true,Nat.zero_ne_one,if_false];rw[Nat.xor_assoc,Nat.xor_comm (b / 2),←Nat.xor_assoc]
 ·simp only[Nat.reduceAdd,Nat.reduceMod,if_true,Nat.zero_ne_one,if_false];rw[Zte,Nat.xor_self,Nat.xor_zero]
theorem ZoQ(y:Nat):bit (2*y)=y:=by
 unfold bit;rw[ZPn ZO];omega
theorem Ziv:∀(m a b:Nat),run m (a ^^^ b)=run m a ^^^ run m b
 | 0,_,_=>rfl
 |m+1,a,b=>by simp only[run,Ztt,Ziv m]
theorem Zid:∀(m y:Nat),run m (2 ^ m*y)=y
 | 0,y=>by simp[run]
 |m+1,y=>by
  have e:2 ^ (m+1)*y=2*(2 ^ m*y):=by rw[Nat.pow_succ,Nat.mul_comm (2 ^ m) 2,Nat.mul_assoc]
  rw[e];simp only[run,ZoQ,Zid m]
theorem ZkL:∀(m n x:Nat),run (m+n) x=run n (run m x)
 | 0,n,x=>by simp[run]
 |m+1,n,x=>by
  rw[show m+1+n=(m+n)+1 by omega];simp only[run,ZkL m]
theorem Zmh(h:x<4294967296):bit x<4294967296:=by
 unfold bit;split
 ·exact Nat.xor_lt_two_pow (n:=32) ZO ZJ
 ·omega
theorem Zrl:∀(m:Nat) {x:Nat},x<4294967296->run m x<4294967296
 | 0,_,h=>h
 |m+1,_,h=>Zrl m (Zmh h)
theorem Zi7{a:Nat}(h:a ^^^ b=0):a=b:=by
 have:a ^^^ b ^^^ b=0 ^^^ b:=by rw[h]
 simpa [Nat.xor_assoc] using this
theorem ZrQ(h:x<4294967296)(h0:bit x=0):x=0:=by
 unfold bit at h0;split at h0
 ·have h1:x / 2=3988292384:=Zi7 h0;omega
 ·omega
theorem Zjp:∀(m:Nat) {x:Nat},x<4294967296->run m x=0->x=0
 | 0,_,_,h=>h
 |m+1,_,hx,h=>ZrQ hx (Zjp m (Zmh hx) h)
theorem Zud(m:Nat){a:Nat}(ha:a<4294967296)(hb:b<4294967296)(h:run m a=run m b):a=b:=by
 refine Zi7 (Zjp m (Nat.xor_lt_two_pow (n:=32) ha hb) ?_);rw[Ziv,h,Nat.xor_self]
theorem Znn{a:Nat}(ha:a<4294967296)(hb:b<4294967296):a ^^^ b<4294967296:=Nat.xor_lt_two_pow (n:=32) ha hb
theorem ZoC{r:Nat}(hr:r<4294967296)(hc:c<256):stepN r c<4294967296:=Zrl 8 (Znn hr ZO)
theorem Zrk(hl:∀x∈l,x<256):∀{r:Nat},r<4294967296->regN r l<4294967296:=by
 induction l with
 |nil=>intro r h;exact h
 |cons c l ih=>intro r h;exact ih (λx hx=>hl x (by simp[hx])) (ZoC h (hl c ZM))
theorem Zni(l:List Nat):Zec l<4294967296:=by unfold Zec Zds;omega
theorem ZpG(r:Nat)(a b:List Nat):regN r (a++b)=regN (regN r a) b:=by simp[regN,List.foldl_append]
theorem ZgG{y:Nat}(h:c<256):c+256*y=c ^^^ 256*y:=by
 have h1:=Nat.two_pow_add_eq_or_of_lt (b:=c) (i:=8) ZO y;have h2:(2 ^ 8*y) ^^^ c=2 ^ 8*y ||| c:=by
  apply Nat.eq_of_testBit_eq;intro i;rw[Nat.testBit_xor,Nat.testBit_or,Nat.testBit_two_pow_mul];rcases Nat.lt_or_ge i 8 with hi|hi
  ·simp[show ¬i>=8 by omega]
  ·have:c.testBit i=false:=Nat.testBit_lt_two_pow (ZR h (by exact Nat.pow_le_pow_right (n:=2) ZO hi));simp[this]
 rw[Nat.xor_comm,h2,←h1,Nat.add_comm]
theorem Zit:∀(l:List Nat) (r:Nat),(∀x∈l,x<256)->regN r l=run (8*l.length) (r ^^^ big l)
 | [],r,_=>by simp[regN,big,run]
 |c::l,r,h=>by
  have hc:c<256:=h c ZM;have e:regN r (c::l)=regN (stepN r c) l:=rfl;rw[e,Zit l _ (λx hx=>h x (by simp[hx]))];have e2:8*(c::l).length=8+8*l.length:=ZP;rw[e2,ZkL];have e3:r ^^^ big (c::l)=(r ^^^ c) ^^^ 2 ^ 8*big l:=by
   show r ^^^ (c+256*big l)=_
   rw[ZgG hc,Nat.xor_assoc]
  rw[e3,Ziv 8 (r ^^^ c) (2 ^ 8*big l),Zid];rfl
theorem Zqb:∀(l:List Nat),(∀x∈l,x<256)->big l<2 ^ (8*l.length)
 | [],_=>by simp[big]
 |c::l,h=>by
  have hc:c<256:=h c ZM;have:=Zqb l (λx hx=>h x (by simp[hx]));have e:2 ^ (8*(c::l).length)=256*2 ^ (8*l.length):=by
   rw[show 8*(c::l).length=8+8*l.length by simp;omega,Nat.pow_add]
  rw[e];show c+256*big l<_
  omega
theorem Zkp:∀{a b:List Nat},(∀x∈a,x<256)->(∀x∈b,x<256)->a.length=b.length->big a=big b->a=b
 | [],[],_,_,_,_=>rfl
 |x::a,y::b,ha,hb,hl,h=>by
  have hx:=ha x ZM;have hy:=hb y ZM;have h':x+256*big a=y+256*big b:=h;have e:x=y:=ZO;have e2:big a=big b:=ZO;rw[e,Zkp (λz hz=>ha z (by simp[hz])) (λz hz=>hb z (by simp[hz])) (by simpa using hl) e2]
theorem Zs4(s:Nat):(Zce s).length=4:=rfl
theorem Zhi(s:Nat):∀x∈Zce s,x<256:=by
 intro x hx;simp only[Zce,List.mem_cons,List.not_mem_nil,or_false]at hx;omega
theorem Zmf{s:Nat}(h:s<4294967296):big (Zce s)=s:=by simp only[Zce,big];omega
theorem ZmW{r:Nat}(h:r<4294967296):Zds-r=Zds ^^^ r:=by
 have hr:r<2 ^ 32:=h;have e:(2 ^ 32-1) ^^^ r=2 ^ 32-1-r:=by
  apply Nat.eq_of_testBit_eq;intro i;rw[Nat.testBit_xor,Nat.testBit_two_pow_sub_one,show 2 ^ 32-1-r=2 ^ 32-(r+1) by omega,Nat.testBit_two_pow_sub_succ hr];by_cases hi:i<32
  ·simp[hi]
  ·have:r.testBit i=false:=Nat.testBit_lt_two_pow (ZR hr (Nat.pow_le_pow_right ZJ ZO));simp[hi,this]
 exact e.symm
theorem ZsS{r:Nat}{d:List Nat}(hd:∀x∈d,x<256)(h4:d.length=4):regN r d=run 32 (r ^^^ big d):=by
 rw[Zit d r hd,h4]
theorem ZrP{d:List Nat}(hd:∀x∈d,x<256)(h4:d.length=4):big d<4294967296:=by
 have:=Zqb d hd;rw[h4]at this;omega
abbrev ZkJ:Nat:=run 32 Zds
theorem Zlo{d:List Nat}(hl:∀x∈l,x<256)(hd:∀x∈d,x<256)(h4:d.length=4):d=Zce (Zec l)↔regN Zds (l++d)=ZkJ:=by
 have hr:regN Zds l<4294967296:=Zrk hl ZJ;have hs:Zec l=Zds ^^^ regN Zds l:=ZmW hr;rw[ZpG,ZsS hd h4];constructor
 ·rintro rfl;rw[Zmf (Zni l),hs,←Nat.xor_assoc,Nat.xor_comm (regN Zds l),Nat.xor_assoc,Nat.xor_self,Nat.xor_zero]
 ·intro h;have h1:=Zud 32 (Znn hr (ZrP hd h4)) ZJ h;refine Zkp hd (Zhi _) (by rw[h4];rfl) ?_;rw[Zmf (Zni l),hs];generalize regN Zds l=R at h1 ⊢;rw[←h1,Nat.xor_comm R,Nat.xor_assoc,Nat.xor_self,Nat.xor_zero]
theorem ZsW(hl:∀x∈l,x<256):regN Zds (ZaF l)=ZkJ:=(Zlo hl (Zhi _) rfl).1 rfl
theorem Zfs(hl:∀x∈l,x<256):∀x∈ZaF l,x<256:=by
 intro x hx;rcases List.mem_append.1 hx with h|h
 ·exact hl x h
 ·exact Zhi _ x h
theorem Zb7(l:List Nat):(ZaF l).length=l.length+4:=by simp[ZaF,Zs4]
theorem ZuR{s t:List Nat}{w:Nat}(hs:∀x∈s,x<256)(ht:∀x∈t,x<256)(hl:t.length=s.length)(hk:k<=8*s.length)(hw:w<4294967296)
  (h:big t=big s ^^^ 2 ^ k*w) (hr:regN Zds t=regN Zds s):t=s:=by
 refine Zkp ht hs hl ?_;rw[Zit t _ ht,Zit s _ hs,hl,h,←Nat.xor_assoc,Ziv]at hr;have h0:run (8*s.length) (2 ^ k*w)=0:=by
  have e:run (8*s.length) (Zds ^^^ big s) ^^^ (run (8*s.length) (Zds ^^^ big s) ^^^ run (8*s.length) (2 ^ k*w))=0:=by rw[hr,Nat.xor_self]
  rw[←Nat.xor_assoc,Nat.xor_self,Nat.zero_xor]at e;exact e
 rw[show 8*s.length=k+(8*s.length-k) by omega,ZkL,Zid]at h0;rw[h,Zjp _ hw h0,Nat.mul_zero,Nat.xor_zero]
theorem Zmg:∀{l:List Nat} {j b:Nat},(∀x∈l,x<256)->j<l.length->b<8->big (l.set j (l.getD j 0 ^^^ 2 ^ b))=big l ^^^ 2 ^ (8*j+b)
 | [],j,_,_,h,_=>by simp at h
 |c::l,0,b,h,_,hb=>by
  have hc:c<256:=h c ZM;have h2:(2:Nat) ^ b<256:=Nat.pow_lt_pow_right (n:=8) ZO hb;have hx:c ^^^ 2 ^ b<256:=Nat.xor_lt_two_pow (n:=8) hc h2;simp only[ZB,List.getD_cons_zero,big,Nat.mul_zero,Nat.zero_add];rw[ZgG hx,ZgG hc,Nat.xor_assoc,Nat.xor_assoc,Nat.xor_comm (2 ^ b)]
 |c::l,j+1,b,h,hj,hb=>by
  have hc:c<256:=h c ZM;have ih:=Zmg (l:=l) (j:=j) (b:=b) (λx hx=>h x (by simp[hx])) (by simpa using hj) hb;simp only[ZC,List.getD_cons_succ,big];rw[ih,ZgG hc,ZgG hc,Nat.xor_assoc];congr 1;have e:=Nat.shiftLeft_xor_distrib (a:=big l) (b:=2 ^ (8*j+b)) (i:=8);simp only[Nat.shiftLeft_eq]at e;rw[Nat.mul_comm 256,Nat.mul_comm 256];rw[show 2 ^ (8*(j+1)+b)=2 ^ (8*j+b)*2 ^ 8 by rw[←Nat.pow_add];congr 1;omega];exact e
theorem ZiB(h:x<4294967296):bits .and .u32 (x:Int) 1=((x%2:Nat):Int):=by
 have h1:=u32_and_nat x 1 h ZO;rw[Nat.and_one_is_mod]at h1;simpa using h1
theorem Zr6(h:x<4294967296)(h1:x%2=1):bits .xor .u32 ((x:Int) / 2) 3988292384=((bit x:Nat):Int):=by
 have h2:=u32_xor_nat (x / 2) 3988292384 ZO ZO;unfold bit;rw[ZPp h1,←h2];simp
theorem ZqD(h1:x%2=0):((x:Int) / 2)=((bit x:Nat):Int):=by
 unfold bit;rw[ZPn ZO];simp
theorem Ztb{r:Nat}(hr:r<4294967296)(hc:c<256):bits .xor .u32 (r:Int) (c:Int)=((r ^^^ c:Nat):Int):=u32_xor_nat r c hr ZO
theorem ZsV(h:k<8):run (8-k) x=run (8-(k+1)) (bit x):=by
 rw[show 8-k=(8-(k+1))+1 by omega];rfl
theorem Zs0(r c:Nat)(w:World)(hr:r<4294967296)(hc:c<256):
  Calls prog 228 #[.int .u32 r,.int .u8 c] w λe w'=>e=R_ (.int .u32 (stepN r c:Nat))/\w=w':=by
 have hx:=Ztb hr hc;have cI:r ^^^ c<4294967296:=Znn hr ZO;have hS:run 8 (r ^^^ c)=stepN r c:=rfl;generalize stepN r c=S at hS ⊢;generalize r ^^^ c=x0 at hx cI hS;have HS:=ZH hS;clear hS;go_enter func228,ntmps228;go_wp2_with fail;go_loop [0,9] (λv i=>∃k x:Nat,k<=8/\i=I_ J_ k/\v=.int .u32 x/\x<4294967296/\Hid (run (8-k) x=S)) (λ_ i=>8-(intOf i).toNat)
 case atStart=>exact⟨0,x0,ZO,rfl,rfl,cI,HS⟩
 case round =>
  obtain⟨k,x,hk,rfl,rfl,fV,HR⟩:=hrel;clear hx;by_cases km:k<8
  ·have hn:=ZsV (x:=x) km;rw[HR.out]at hn;have cW:=Zmh fV;have HN:=ZH hn.symm;clear hn;have ha:=ZiB fV;rcases Nat.mod_two_eq_zero_or_one x with h2|h2
   focus
    have he:=ZqD h2
   rotate_left
   focus
    have he:=Zr6 fV h2
   rotate_left
   all_goals
    rw[h2]at ha;clear h2;go_wp2_with fail;go_round
    case rel=>exact⟨k+1,bit x,ZO,ZN,rfl,cW,HN⟩
    case measure=>simp[intOf];omega
  ·obtain rfl:k=8:=ZO;have hR:x=S:=HR.out;subst hR;go_wp2
   go_ret;exact⟨rfl,rfl⟩
theorem Zox(h:x<4294967296):bits .xor .u32 IntKind.u32.max (x:Int)=((4294967295-x:Nat):Int):=by
 have h1:=u32_xor_nat 4294967295 x ZO h;have h2:=ZmW h;rw[←h2]at h1;exact h1
theorem ZsT{q:Nat}(h:q<l.length):regN x (l.drop q)=regN (stepN x (l.getD q 0)) (l.drop (q+1)):=by
 unfold regN;rw[List.drop_eq_getElem_cons h,List.foldl_cons];simp only[List.getD,ZX h,Option.getD_some]
theorem ZgY(h:∀x∈l,x<256)(q:Nat):l.getD q 0<256:=by
 rcases Nat.lt_or_ge q l.length with hq|hq
 ·simp only[List.getD,ZX hq,Option.getD_some];exact h _ (List.getElem_mem hq)
 ·simp[List.getD,List.getElem?_eq_none hq]
theorem Zs1(b off n cap:Nat)(l:List Nat)(w:World)(hl:l.length=n)(hs:∀x∈l,x<256)(gG:n<=cap)(iK:cap<=maxLen)
  (hc:∀i,i<n->w.cell? ⟨b,off+i,none⟩=some (.int .u8 ((l.getD i 0:Nat):Int))) :
  Calls prog 200 #[S_ (some ⟨b,off,none⟩) n cap] w λe w'=>e=R_ (.int .u32 (Zec l:Nat))/\w=w':=by
 unfold maxLen at iK;obtain⟨S,hS⟩:∃S,S=regN Zds l:=⟨_,rfl⟩;have VB:S<4294967296:=by rw[hS];exact Zrk hs ZJ
 have sV:Zec l=4294967295-S:=by rw[hS];rfl
 rw[sV];obtain⟨HC,HS,HL,HR⟩:=ZH4 hc hs hl hS.symm;clear hc hs hl hS sV;go_enter func200,ntmps200;go_wp2_with fail;go_loop [3,8] (λv i=>∃q x:Nat,q<=n/\i=I_ J_ q/\v=.int .u32 x/\x<4294967296/\Hid (regN x (l.drop q)=S)) (λ_ i=>n-(intOf i).toNat)
 case atStart=>exact⟨0,4294967295,ZO,rfl,rfl,ZO,HR⟩
 case round =>
  obtain⟨q,x,hq,rfl,rfl,fV,HX⟩:=hrel;by_cases du:q<n
  ·have VJ:=HC.out q du;have fg:=ZgY HS.out q;have hn:=ZsT (l:=l) (q:=q) (x:=x) (by rw[HL.out];exact du);rw[HX.out]at hn;generalize l.getD q 0=c at VJ fg hn;have Pm:=ZoC fV fg;have HN:=ZH hn.symm;clear hn;go_wp2_with fail;refine(Zs0 x c w fV fg).mono ?_;rintro e w' ⟨rfl,rfl⟩;go_wp2_with fail;go_round
   case rel=>exact⟨q+1,_,ZO,ZN,rfl,Pm,HN⟩
   case measure=>simp[intOf];omega
  ·obtain rfl:n=q:=ZO;have hX:x=S:=by
    have h:=HX.out;rw[←HL.out,List.drop_length]at h;exact h
   subst hX;have gY:=Zox fV;go_wp2
   go_ret;exact⟨rfl,rfl⟩
theorem Zs2(a:Option Addr)(cap:Nat)(w:World):Calls prog 200 #[S_ a 0 cap] w λe w'=>e=R_ (.int .u32 (Zec []:Nat))/\w=w':=by
 go_enter func200,ntmps200;go_wp2_with fail;go_loop [3,8] (λv i=>i=I_ J_ 0/\v=.int .u32 4294967295) (λ_ _=>0)
 case atStart=>exact⟨rfl,rfl⟩
 case round =>
  obtain⟨rfl,rfl⟩:=hrel;have gY:=Zox (x:=4294967295) ZO;go_wp2
  go_ret;exact⟨rfl,rfl⟩
theorem Zui{a:Option Addr}{bs:List Nat}(h:Bytes w a n cap bs)(hs:∀x∈bs,x<256):
  Calls prog 200 #[S_ a n cap] w λe w'=>e=R_ (.int .u32 (Zec bs:Nat))/\w=w':=by
 obtain⟨h1,h2,⟨rfl,rfl⟩|⟨b,off,rfl,h4,h5,h6⟩⟩:=h
 ·exact Zs2 a cap w
 ·exact Zs1 b off n cap bs w h5 hs h1 h2 h6
theorem ZfW{fn:Func}{t ty:Nat}(h:fn.results=#[.cell t ty]){tmps:Array Value}{ad:Addr}(hp:tmps.getD t undef=P_ (some ad))
  (hl:(loadVar ty ad).run P w=.ok v w):(results fn tmps).run P w=.ok v w:=by
 have oE:tmps[t]?.getD undef=P_ (some ad):=by simpa using hp
 simp[results,h,oE,asAddr,hl]
def part(s q:Nat):Array Value:=(cells ((Zce s).take q++List.replicate (4-q) 0)).toArray
theorem Zs3{s q:Nat}(h:q<4):IntKind.u8.wrap ((s:Int) / 2 ^ (8*q))=(((Zce s).getD q 0:Nat):Int):=by
 rw[IntKind.wrap_u8];rcases(by omega:q=0∨q=1∨q=2∨q=3) with rfl|rfl|rfl|rfl <;> simp[Zce] <;> omega
theorem Zsw{s q:Nat}(h:q<4):(part s q).setIfInBounds q (.int .u8 (((Zce s).getD q 0:Nat):Int))=part s (q+1):=by
 rcases(by omega:q=0∨q=1∨q=2∨q=3) with rfl|rfl|rfl|rfl <;> rfl
theorem Znj{a:Option Addr}{bs:List Nat}(h:Bytes w a n cap bs)(hs:∀x∈bs,x<256):
  Calls prog 170 #[S_ a n cap] w λe w'=>e=R_ (.agg (cells (Zce (Zec bs))).toArray)/\Below w.heap.size w w':=by
 obtain⟨S,hS⟩:∃S,S=Zec bs:=⟨_,rfl⟩;have VB:S<4294967296:=by rw[hS];exact Zni bs
 obtain⟨HB,HS,DB⟩:=ZH3 h hs hS;clear h hs hS;go_enter func170,ntmps170;go_wp2_with fail;have cP:Below w.heap.size w ((w.alloc (Obj.cells #[Value.int IntKind.u8 0,Value.int IntKind.u8 0,Value.int IntKind.u8 0,Value.int IntKind.u8 0] 274)).alloc (Obj.cells #[Value.int IntKind.u8 0,Value.int IntKind.u8 0,Value.int IntKind.u8 0,Value.int IntKind.u8 0] 274)):=((ZW _ _).alloc (ZL _) _).alloc ZM _;have cR:Kept w.heap.size w _:=Kept.start cP;have uH:Blk ((w.alloc (Obj.cells #[Value.int IntKind.u8 0,Value.int IntKind.u8 0,Value.int IntKind.u8 0,Value.int IntKind.u8 0] 274)).alloc (Obj.cells #[Value.int IntKind.u8 0,Value.int IntKind.u8 0,Value.int IntKind.u8 0,Value.int IntKind.u8 0] 274)) w.heap.size 274 (part S 0):=(ZBn w 274 _).alloc _;have uI:Blk ((w.alloc (Obj.cells #[Value.int IntKind.u8 0,Value.int IntKind.u8 0,Value.int IntKind.u8 0,Value.int IntKind.u8 0] 274)).alloc (Obj.cells #[Value.int IntKind.u8 0,Value.int IntKind.u8 0,Value.int IntKind.u8 0,Value.int IntKind.u8 0] 274)) (w.heap.size+1) 274 (part S 0):=by
  have:=ZBn (w.alloc (Obj.cells #[Value.int IntKind.u8 0,Value.int IntKind.u8 0,Value.int IntKind.u8 0,Value.int IntKind.u8 0] 274)) 274 #[Value.int IntKind.u8 0,Value.int IntKind.u8 0,Value.int IntKind.u8 0,Value.int IntKind.u8 0];have e:(w.alloc (Obj.cells #[Value.int IntKind.u8 0,Value.int IntKind.u8 0,Value.int IntKind.u8 0,Value.int IntKind.u8 0] 274)).heap.size=w.heap.size+1:=ZM;rw[e]at this;exact this
 generalize (w.alloc (Obj.cells #[Value.int IntKind.u8 0,Value.int IntKind.u8 0,Value.int IntKind.u8 0,Value.int IntKind.u8 0] 274)).alloc (Obj.cells #[Value.int IntKind.u8 0,Value.int IntKind.u8 0,Value.int IntKind.u8 0,Value.int IntKind.u8 0] 274)=w1 at cR uH uI ⊢;clear cP;refine(Zui (HB.out.kept cR.below (ZL _)) HS.out).mono ?_;rintro e w2 ⟨rfl,rfl⟩;rw[←DB.out];obtain⟨dj,df⟩:=ZH2 uH uI;clear uH uI;go_wp2_with fail;go_loopw [8] (λi wr=>∃q:Nat,q<=4/\i=I_ J_ q/\Hid (Blk wr w.heap.size 274 (part S 0))/\Hid (Blk wr (w.heap.size+1) 274 (part S q))/\Kept w.heap.size w wr) (λi _=>4-(intOf i).toNat)
 case atStart=>exact⟨0,ZO,rfl,dj,df,cR⟩
 case round =>
  clear cR;obtain⟨q,hq,rfl,HX,HY,hk⟩:=hrel;by_cases O4:q<4
  ·have hg:=Zs3 (s:=S) O4;have gP:=Zsw (s:=S) O4;have eP:=HY.out.aj q (.int .u8 (((Zce S).getD q 0:Nat):Int));rw[gP]at eP;have jN:=HX.out.far (p:=⟨w.heap.size+1,q,none⟩) ZM (.int .u8 (((Zce S).getD q 0:Nat):Int));have i6:=hk.setCell (p:=⟨w.heap.size+1,q,none⟩) ZM (.int .u8 (((Zce S).getD q 0:Nat):Int));obtain⟨u,cB⟩:∃u,wr.cell? ⟨w.heap.size+1,q,none⟩=some u:=by
    rw[HY.out.cell q];have:q<(part S q).size:=by simp[part,cells,Zce];omega
    exact⟨_,Array.getElem?_eq_getElem this⟩
   have gM:=HY.out.frozen q;generalize (Zce S).getD q 0=d at hg eP jN i6;obtain⟨HG,HF,HK⟩:=ZH3 eP jN i6;clear gP eP jN i6;go_wp2
   go_roundw
   case rel=>exact⟨q+1,ZO,ZN,HF,HG,HK.out⟩
   case measure=>simp[intOf];omega
  ·obtain rfl:q=4:=ZO;obtain⟨d0,d1,d2,d3,hd⟩:∃d0 d1 d2 d3,Zce S=[d0,d1,d2,d3]:=⟨_,_,_,_,rfl⟩;have c0:wr.cell? ⟨w.heap.size+1,0,none⟩=some (.int .u8 (d0:Int)):=by rw[HY.out.cell 0];unfold part;rw[hd];rfl
   have c1:wr.cell? ⟨w.heap.size+1,1,none⟩=some (.int .u8 (d1:Int)):=by rw[HY.out.cell 1];unfold part;rw[hd];rfl
   have c2:wr.cell? ⟨w.heap.size+1,2,none⟩=some (.int .u8 (d2:Int)):=by rw[HY.out.cell 2];unfold part;rw[hd];rfl
   have c3:wr.cell? ⟨w.heap.size+1,3,none⟩=some (.int .u8 (d3:Int)):=by rw[HY.out.cell 3];unfold part;rw[hd];rfl
   have x0:wr.cell? ⟨w.heap.size,0,none⟩=some (.int .u8 0):=by rw[HX.out.cell 0];rfl
   have x1:wr.cell? ⟨w.heap.size,1,none⟩=some (.int .u8 0):=by rw[HX.out.cell 1];rfl
   have x2:wr.cell? ⟨w.heap.size,2,none⟩=some (.int .u8 0):=by rw[HX.out.cell 2];rfl
   have x3:wr.cell? ⟨w.heap.size,3,none⟩=some (.int .u8 0):=by rw[HX.out.cell 3];rfl
   have f0:=HX.out.frozen 0;have f1:=HX.out.frozen 1;have f2:=HX.out.frozen 2;have f3:=HX.out.frozen 3;have HD:=ZH hd;clear hd;go_wp2_with fail;have cW:=(((HX.out.aj 0 (.int .u8 (d0:Int))).aj 1 (.int .u8 (d1:Int))).aj 2 (.int .u8 (d2:Int))).aj 3 (.int .u8 (d3:Int));have oT:=(((hk.setCell (p:=⟨w.heap.size,0,none⟩) (ZL _) (.int .u8 (d0:Int))).setCell (p:=⟨w.heap.size,1,none⟩) (ZL _) (.int .u8 (d1:Int))).setCell (p:=⟨w.heap.size,2,none⟩) (ZL _) (.int .u8 (d2:Int))).setCell (p:=⟨w.heap.size,3,none⟩) (ZL _) (.int .u8 (d3:Int));have gC:((((part S 0).setIfInBounds 0 (.int .u8 (d0:Int))).setIfInBounds 1 (.int .u8 (d1:Int))).setIfInBounds 2 (.int .u8 (d2:Int))).setIfInBounds 3 (.int .u8 (d3:Int))=(cells (Zce (Zec bs))).toArray:=by
    rw[←DB.out,HD.out];rfl
   rw[gC]at cW;(try simp only[Exit.inBlock,Exit.then]);refine bodyPost_ret (ZfW rfl rfl (run_loadVar_row _ _ _ _ _ _ _ cW underlying274 rfl ZK)) rfl ?_;exact⟨rfl,oT.below⟩
theorem ZaJ:(prog.info? 5).map (λi=>(i.zero,i.size,i.bytes))=some (some (.int .u8 0),1,1):=ZK
theorem Ze8(w:World)(e:TypeId)(u:Value):Reads (w.alloc (C_ #[u] e)) (w.heap.size+1) 1 (some ⟨w.heap.size,0,none⟩) 1 [u]:=by
 refine⟨rfl,λ_=>⟨_,rfl,ZM,λj v hj=>?_⟩⟩;have wv:j=0:=by
  rcases Nat.eq_zero_or_pos j with h|h
  ·exact h
  ·rw[List.getElem?_eq_none ZP]at hj;cases hj
 subst wv;simp at hj;subst hj;exact(ZBn w e #[u]).cell 0
theorem ZdN(gT:List Nat)(c:Nat):cells gT++[.int .u8 (c:Int)]=cells (gT++[c]):=by rw[Zv];rfl
def Zum(bs:List Nat)(w:World)(e:Ending)(w':World):Prop:=∃v,e=R_ v/\w'.ownsRow w.heap.size 5 1 v bs.length (cells bs)/\L_ w w'
theorem Zh5(h:w.heap.size=g)(e:TypeId)(u:Value):Reads (w.alloc (C_ #[u] e)) (g+1) 1 (some ⟨g,0,none⟩) 1 [u]:=by
 subst h;exact Ze8 w e u
theorem Zl2(t e:TypeId)(i:TypeInfo)(z:Value)(ht:P.underlying t=some (.slice e))(hi:P.info? e=some i)(hz:i.zero=some z)
  (kl kc:IntKind) (n c:Nat) (fp:n<=c) (kL:i.bytes*c<=281474976710656) (DM:c<=9223372036854775807) (w:World) :
  (Instr.makeSlice t (.int kl (n:Int)) (.int kc (c:Int))).run P w=.ok (S_ (some ⟨w.heap.size,0,none⟩) n c) (w.alloc (C_ (madeCells z.cells (c*i.size)) e)):=by
 have hb:(i.bytes:Int)*(c:Int)<=281474976710656:=by
  have h:((i.bytes*c:Nat):Int)<=281474976710656:=ZO;rwa [Int.natCast_mul]at h
 have hr:=run_make (P:=P) w t e i z ht hi hz kl kc n c ZO ZO hb ZO;simp only[Int.toNat_natCast]at hr;exact hr
theorem Zqj(bs:List Nat)(i d:Nat):(cells bs).set i (.int .u8 (d:Int))=cells (bs.set i d):=by simp[cells,List.map_set]
theorem Zsv{e:Nat}{xs:List Value}(h:w.ownsRow base e 1 v n xs)(hn:0<n):∃g c,v=S_ (some ⟨g,0,none⟩) n c/\base<=g/\n<=c:=by
 rcases h.2 with ⟨_,rfl⟩|⟨g,cap,cur,rfl,hb,_,fp,_⟩
 ·omega
 ·exact⟨g,cap,rfl,hb,fp⟩
theorem Zj5(w:World)(B:Nat)(hB:B<=w.heap.size):(w.alloc (C_ #[] 5)).ownsRow B 5 1 (S_ (some ⟨w.heap.size,0,none⟩) 0 0) 0 (cells []) :=
 ⟨rfl,.inr ⟨w.heap.size,0,#[],rfl,hB,ZBn w 5 #[],ZL _,by unfold maxLen;omega,rfl,rfl⟩⟩
theorem ZqS(w:World)(B k:Nat)(hB:B<=w.heap.size)(hk:k<=maxLen):(w.alloc (C_ (madeCells (Value.int .u8 0).cells (k*1)) 5)).ownsRow B 5 1 (S_ (some ⟨w.heap.size,0,none⟩) 0 k) 0 (cells []):=by
 refine⟨by simp[cells],.inr ⟨w.heap.size,k,_,rfl,hB,ZBn w 5 _,Nat.zero_le _,hk,by simp[size_madeCells],?_⟩⟩;simp[cells]
theorem Zrc(h:Blk w g t (cells l).toArray)(B:Nat)(hB:g<B):Reads w B 1 (some ⟨g,0,none⟩) l.length (cells l):=by
 refine⟨by simp[cells],λ_=>⟨_,rfl,hB,λj u hu=>?_⟩⟩;have e:Addr.add ⟨g,0,none⟩ j=⟨g,j,none⟩:=by
  unfold Addr.add;by_cases h:j=0 <;> simp[h]
 rw[e,h.cell j];simpa using hu
theorem Zbg(n:Nat)(w:World)(hn:n<18446744073709551616):Calls prog 122 #[.int .u64 n] w (Zum (Zd n) w):=by
 have vI:=Zm4 hn;have HN:=ZH vI;clear vI;obtain⟨i0,hi,dd,cV,dc⟩:=info_parts ZaJ;go_enter func122,ntmps122;go_wp2_with fail;go_loopw [0,3] (λx v wr=>∃(k:Nat) (gT:List Nat),x=.int .u64 k/\Hid (Zd n=gT++Zd k)/\wr.ownsRow w.heap.size 5 1 v gT.length (cells gT)/\L_ w wr/\gT.length<=9/\k<18446744073709551616) (λx _ _=>(intOf x).toNat)
 case atStart=>exact⟨n,[],rfl,rfl,⟨rfl,.inl ⟨rfl,rfl⟩⟩,ZW _ _,ZM,hn⟩
 case round =>
  obtain⟨k,gT,rfl,HP,dk,gE,sw,D0⟩:=hrel;have HO:=ZH dk;clear dk;by_cases hk:128<=k
  ·go_wp2_with (at_builtin;refine Zc _ rfl (.tmp 6) (.tmp 11) _ rfl w.heap.size 5 i0 _ 1 1 underlying106 hi dd cV dc rfl ZO u3 gT.length (cells gT) rfl (HO.out.alloc _) (wr.heap.size+1) (some ⟨wr.heap.size,0,none⟩) 1 1 [.int .u8 (k%128+128)] rfl (Ze8 _ _ _) (by intro u hu;simp at hu;subst hu;rfl) ZF ZO (ZT gE.size ZM) ?_;intro v1 w1 fF lm _)
   have cI:=HO.out.lt;go_roundw
   case rel =>
    have hP:Zd n=(gT++[k%128+128])++Zd (k / 128):=by rw[HP.out,Zei hk];simp
    have hL:=HN.out;have hp:=Zac (k / 128);rw[hP]at hL;simp only[ZI]at hL;refine⟨k / 128,gT++[k%128+128],ZN,hP,?_,(gE.alloc gE.size _).grown lm (ZT gE.size ZM) (λg hg=>(cI g hg).1),by simp at hL ⊢;omega,ZO⟩;have e:cells gT++[.int .u8 ((k:Int)%128+128)]=cells (gT++[k%128+128]):=by rw[←ZdN];simp
    rw[e]at fF;simpa using fF
   case measure=>simp[intOf];omega
  ·go_wp2_with (at_builtin;refine Zc _ rfl (.tmp 15) (.tmp 18) _ rfl w.heap.size 5 i0 _ 1 1 underlying106 hi dd cV dc rfl ZO u3 gT.length (cells gT) rfl (HO.out.alloc _) (wr.heap.size+1) (some ⟨wr.heap.size,0,none⟩) 1 1 [.int .u8 k] rfl (Ze8 _ _ _) (by intro u hu;simp at hu;subst hu;rfl) ZF ZO (ZT gE.size ZM) ?_;intro v1 w1 fF lm _)
   have cI:=HO.out.lt;go_ret;have hP:Zd n=gT++[k]:=by rw[HP.out,ZdU ZO]
   refine⟨v1,rfl,?_,(gE.alloc gE.size _).grown lm (ZT gE.size ZM) (λg hg=>(cI g hg).1)⟩;rw[hP,←ZdN,ZI];exact fF
section
section
variable {P:Program}{cQ:Array Oper}{Q:Exit->Act->World->Prop}{S:World->Prop}{cut:Nat->Bool}
def nth:List Oper->Nat->Option Oper
 | [],_=>none
 |o::_,0=>some o
 |_::l,i+1=>nth l i
theorem Zgz:∀(l:List Oper) (i:Nat),nth l i=l.toArray[i]?
 | [],i=>by simp[nth]
 |o::l,0=>by simp[nth]
 |o::l,i+1=>by rw[nth,Zgz l i];simp
def Zcw(P:Program)(cQ:Array Oper)(Q:Exit->Act->World->Prop)(cut:Nat->Bool)(S:World->Prop):Nat->Array Bool->Bool->Act->World->Prop
 | 0,cC,_,a,w=>Region.ready .any cQ cC=[]/\Q .normal a w
 |n+1,cC,live,a,w=>(Region.ready .any cQ cC=[]->Q .normal a w) /\
  ∀i,i∈Region.ready .any cQ cC->wpOp P cQ Q i (λa' w'=>((live && !cut i)=true->S w')/\Zcw P cQ Q cut S n (cC.setIfInBounds i true) (live && !cut i) a' w') a w
theorem Zfw:∀(n:Nat) (cC:Array Bool) (live:Bool) (a:Act) (w:World),Zcw P cQ Q cut S n cC live a w->wpAny P .any cQ Q n cC a w
 | 0,_,_,_,_,h=>h
 |n+1,_,_,_,_,h=>⟨h.1,λi hi=>wpOp_mono (λ_ _ g=>Zfw n _ _ _ _ g.2) (h.2 i hi)⟩
theorem ZeX{S':World->Prop}(hw:∀x,S' x->S x):∀(n:Nat) (cC:Array Bool) (live:Bool) (a:Act) (w:World),Zcw P cQ Q cut S' n cC live a w->Zcw P cQ Q cut S n cC live a w
 | 0,_,_,_,_,h=>h
 |n+1,_,_,_,_,h=>⟨h.1,λi hi=>wpOp_mono (λ_ _ g=>⟨λhc=>hw _ (g.1 hc),ZeX hw n _ _ _ _ g.2⟩) (h.2 i hi)⟩
theorem Zhw{j:Nat}{oj:Oper}{cC:Array Bool}(hi:i∈Region.ready .any cQ cC)(hj:j∈Region.ready .any cQ cC)(ho:cQ[j]? = some oj):
  ∀e∈oj.after,Region.binds .any e=true->e.on≠i:=by
 obtain⟨_,Wv,oD,eR⟩:=mem_ready.1 hj;rw[ho]at oD;injection oD with oD;subst oD;intro e he hb uQ;have h1:=eR e he hb;have h0:=(mem_ready.1 hi).1;rw[uQ]at h1;rcases Nat.lt_or_ge i cC.size with h'|h'
 ·simp[h']at h0 h1;rw[h0]at h1
  cases h1
 ·simp[Array.getElem?_eq_none h']at h1
theorem Zil{R:World->Prop}{Lv:Bool->Prop}{oi:Oper}(hi:cQ[i]? = some oi)(CL:Region.noSelect cQ=true)
  (hQ:∀c a w,Q (.panic c) (a.put oi.dst v) w->Q (.panic c) a w) (B8:cut i=false)
  (hR:∀live x,Lv live->(live=true->S x)->R x)
  (hL:∀live j oj,Lv live->cQ[j]? = some oj->(∀e∈oj.after,Region.binds .any e=true->e.on≠i)->Lv (live && !cut j)) :
  ∀(n:Nat) (cC:Array Bool) (live:Bool) (a:Act) (w:World),(∀j oj,cQ[j]? = some oj->j≠i->cC.getD j true=false->(∀e∈oj.after,Region.binds .any e=true->e.on≠i)->oi.apart cQ oj=true) ->
   i∈Region.ready .any cQ cC->YieldsIf P cQ R oi v a->Lv live->(live=true->S w) ->
   Zcw P cQ Q cut S n (cC.setIfInBounds i true) live (a.put oi.dst v) w->Zcw P cQ Q cut S (n+1) cC live a w:=by
 have hs:=Region.noSelect_spec CL;have il:∀live:Bool,(live && !cut i)=live:=λlive=>by rw[B8];simp
 intro n
 induction n with
 |zero =>
  intro cC live a w _ hr hy hl hS H;refine⟨λh=>(by rw[h]at hr;cases hr),λj hj=>?_⟩;by_cases kP:j=i
  ·subst kP;rw[il];exact hy.wpOp hi (hR live w hl hS) ⟨hS,H⟩
  ·have:=ready_mono hj kP;rw[H.1]at this
   cases this
 |succ n ih =>
  intro cC live a w lj hr hy hl hS H;refine⟨λh=>(by rw[h]at hr;cases hr),λj hj=>?_⟩;by_cases kP:j=i
  ·subst kP;rw[il];exact hy.wpOp hi (hR live w hl hS) ⟨hS,H⟩
  ·obtain⟨vd,oj,q7,_⟩:=mem_ready.1 hj;have eC:=Zhw hr hj q7;have h2:=wpOp_putIf q7 (lj j oj q7 kP vd eC) (λcs b=>hs i oi cs b hi) (λcs b=>hs j oj cs b q7) hQ hy (H.2 j (ready_mono hj kP));refine wpOp_mono (λa' w' h3=>⟨h3.2.1,ih (cC.setIfInBounds j true) _ a' w' (λk ok hk yf An gY=>?_) (ready_mono hr (Ne.symm kP)) h3.1 (hL live j oj hl q7 eC) h3.2.1 ?_⟩) h2
   ·refine lj k ok hk yf ?_ gY;by_cases GS:j=k
    ·subst GS;exact vd
    ·rw[getD_set_ne true GS]at An;exact An
   ·rw[Array.setIfInBounds_comm _ _ kP];exact h3.2.2
def Zae(P:Program)(cQ:Array Oper)(Q:Exit->Act->World->Prop):List (Nat×Nat)->(World->Prop)->Act->World->Prop
 | [],_,a,w=>Q .normal a w
 |(i,k)::r,S,a,w=>∃o,cQ[i]? = some o /\
  if Region.wanted o (yielded cQ a.tmps)=true then
   (if k=0 then ∃v,(∀w',S w'->(execOp a.eval o).run P w'=.ok (.value v) w')/\Zae P cQ Q r S (a.put o.dst v) w
    else if k=3 then ∃v,(∀w',(execOp a.eval o).run P w'=.ok (.value v) w')/\Zae P cQ Q r S (a.put o.dst v) w
    else if k=1 then Oper.wp P o a w (λa' w'=>∃S':World->Prop,(∀x,S' x->S x)/\S' w'/\Zae P cQ Q r S' a' w') Q
    else Oper.wp P o a w (λa' w'=>Zae P cQ Q r S a' w') Q)
  else Zae P cQ Q r S (a.put o.dst undef) w
def ZaB(σ : List (Nat×Nat))(i:Nat):Bool := σ.any λe=>e.1==i&&e.2==2
def Zp3(cQ:Array Oper)(σ : List (Nat×Nat))(i:Nat):Bool := σ.all λe => !(e.2==2)||(match cQ[e.1]? with|some o=>o.after.any λx=>Region.binds .any x&&x.on==i|none=>false)
def ZfE(cQ:Array Oper)(τ : List (Nat×Nat)):List (Nat×Nat)->Array Bool->Bool->Bool
 | [],cC,_=>(Region.ready .any cQ cC).isEmpty
 |(i,k)::r,cC,live =>
  (if k=0 then(Region.ready .any cQ cC).contains i&&Region.free .any cQ cC i&&live && !ZaB τ i&&Zp3 cQ τ i
   else if k=3 then(Region.ready .any cQ cC).contains i&&Region.free .any cQ cC i && !ZaB τ i
   else if k=1 then Region.ready .any cQ cC==[i]&&live && !ZaB τ i
   else Region.ready .any cQ cC==[i]&&ZaB τ i)&&ZfE cQ τ r (cC.setIfInBounds i true) (live && !ZaB τ i)
theorem Zp4{τ : List (Nat×Nat)}{i j:Nat}{oj:Oper}(h:Zp3 cQ τ i=true)(hj:cQ[j]? = some oj)(gY:∀e∈oj.after,Region.binds .any e=true->e.on≠i):ZaB τ j=false:=by
 rcases hc:ZaB τ j with _|_
 ·rfl
 ·simp only[ZaB,List.any_eq_true,Bool.and_eq_true,beq_iff_eq]at hc;obtain⟨e,he,h1,h2⟩:=hc;simp only[Zp3,List.all_eq_true]at h;have h3:=h e he;rw[h1,hj,h2]at h3;simp only[beq_self_eq_true,Bool.not_true,Bool.false_or,Array.any_eq_true,Bool.and_eq_true,beq_iff_eq]at h3;obtain⟨k,hk,h4,h5⟩:=h3;exact absurd h5 (gY _ (Array.getElem_mem hk) h4)
theorem Zfx{cC:Array Bool}{live:Bool}(hr:Region.ready .any cQ cC=[i])
  (h:wpOp P cQ Q i (λa' w'=>((live && !cut i)=true->S w')/\Zcw P cQ Q cut S n (cC.setIfInBounds i true) (live && !cut i) a' w') a w):Zcw P cQ Q cut S (n+1) cC live a w :=
 ⟨λh0=>absurd (hr▸h0) ZM,λj hj=>by
  rw[hr]at hj;have e:j=i:=by simpa using hj
  subst e
  exact h⟩
theorem ZhB(hs:Region.noSelect cQ=true)(hQ:∀c a (d:Option Tmp) v w,Q (.panic c) (a.put d v) w->Q (.panic c) a w)(τ : List (Nat×Nat)):
  ∀(σ : List (Nat×Nat)) (S:World->Prop) (cC:Array Bool) (live:Bool) (a:Act) (w:World),ZfE cQ τ σ cC live=true->(live=true->S w)->Zae P cQ Q σ S a w ->
   Zcw P cQ Q (ZaB τ) S σ.length cC live a w
 | [],_,cC,_,a,w,hc,_,h=>⟨by simpa [ZfE] using hc,h⟩
 |(i,k)::r,S,cC,live,a,w,hc,hS,h=>by
  obtain⟨o,ho,h⟩:=h;simp only[ZfE,Bool.and_eq_true]at hc;obtain⟨fL,kM⟩:=hc;have ih:=λS a w=>ZhB hs hQ τ r S (cC.setIfInBounds i true) (live && !ZaB τ i) a w kM
  show Zcw P cQ Q (ZaB τ) S (r.length+1) cC live a w
  by_cases k0:k=0
  ·rw[ZPp k0]at fL;simp only[Bool.and_eq_true,Bool.not_eq_true']at fL;obtain⟨⟨⟨⟨c1,c2⟩,c3⟩,c4⟩,c5⟩:=fL;have e:(live && !ZaB τ i)=live:=by rw[c4];simp
   rw[e]at ih;have F:=λ(v:Value) (hy:YieldsIf P cQ S o v a)=>Zil (Lv:=λb=>b=true) ho hs (λc a w=>hQ c a _ v w) c4 (λ_ _ h1 h2=>h2 h1) (λlv j oj h1 hj gY=>by rw[h1,Zp4 c5 hj gY];rfl) r.length cC live a w
    (λj oj=>Region.free_spec ho c2 j oj) (by simpa using c1) hy c3 hS
   by_cases hw:Region.wanted o (yielded cQ a.tmps)=true
   ·rw[ZPp hw,ZPp k0]at h;obtain⟨v,hv,h⟩:=h;exact F v (Or.inl ⟨hw,hv⟩) (ih _ _ _ hS h)
   ·rw[ZPn hw]at h;exact F undef (Or.inr ⟨by simpa using hw,rfl⟩) (ih _ _ _ hS h)
  ·rw[ZPn k0]at fL;by_cases k3:k=3
   ·rw[ZPp k3]at fL;simp only[Bool.and_eq_true,Bool.not_eq_true']at fL;obtain⟨⟨c1,c2⟩,c4⟩:=fL;have e:(live && !ZaB τ i)=live:=by rw[c4];simp
    rw[e]at ih;have F:=λ(v:Value) (hy:YieldsIf P cQ (λ_=>True) o v a)=>Zil (Lv:=λ_=>True) ho hs (λc a w=>hQ c a _ v w) c4 (λ_ _ _ _=>trivial) (λ_ _ _ _ _ _=>trivial) r.length cC live a w
     (λj oj=>Region.free_spec ho c2 j oj) (by simpa using c1) hy trivial hS
    by_cases hw:Region.wanted o (yielded cQ a.tmps)=true
    ·rw[ZPp hw,ZPn k0,ZPp k3]at h;obtain⟨v,hv,h⟩:=h;exact F v (Or.inl ⟨hw,λw' _=>hv w'⟩) (ih _ _ _ hS h)
    ·rw[ZPn hw]at h;exact F undef (Or.inr ⟨by simpa using hw,rfl⟩) (ih _ _ _ hS h)
   ·rw[ZPn k3]at fL;by_cases k1:k=1
    ·rw[ZPp k1]at fL;simp only[Bool.and_eq_true,Bool.not_eq_true',beq_iff_eq]at fL;obtain⟨⟨c1,c3⟩,c4⟩:=fL;refine Zfx c1 ?_;have e:(live && !ZaB τ i)=true:=by rw[c4,c3];rfl
     rw[e]at ih ⊢;unfold wpOp;simp only[ho];by_cases hw:Region.wanted o (yielded cQ a.tmps)=true
     ·rw[ZPp hw,ZPn k0,ZPn k3,ZPp k1]at h;rw[ZPp hw];exact .inl (Oper.wp_mono (λa' w' ⟨S',h1,h2,h3⟩=>⟨λ_=>h1 _ h2,ZeX h1 _ _ _ _ _ (ih S' _ _ (λ_=>h2) h3)⟩) h)
     ·rw[ZPn hw]at h ⊢;exact⟨λ_=>hS c3,ih _ _ _ (λ_=>hS c3) h⟩
    ·rw[ZPn k1]at fL;simp only[Bool.and_eq_true,beq_iff_eq]at fL;obtain⟨c1,c4⟩:=fL;refine Zfx c1 ?_;have e:(live && !ZaB τ i)=false:=by rw[c4];simp
     rw[e]at ih ⊢;unfold wpOp;simp only[ho];by_cases hw:Region.wanted o (yielded cQ a.tmps)=true
     ·rw[ZPp hw,ZPn k0,ZPn k3,ZPn k1]at h;rw[ZPp hw];exact .inl (Oper.wp_mono (λa' w' h3=>⟨λhf=>(by cases hf),ih S _ _ (λhf=>(by cases hf)) h3⟩) h)
     ·rw[ZPn hw]at h ⊢;exact⟨λhf=>(by cases hf),ih _ _ _ (λhf=>(by cases hf)) h⟩
theorem Zkn{id:Nat}(S:World->Prop)(σ : List (Nat×Nat))(hm:P.follows .mixedOrders=true)
  (hc:(Region.noSelect cQ&&(σ.length==cQ.size&&ZfE cQ σ σ (Array.replicate cQ.size false) true))=true)
  (hQ:∀c a (d:Option Tmp) v w,Q (.panic c) (a.put d v) w->Q (.panic c) a w) (hS:S w.drew)
  (h:S w.drew->Zae P cQ Q σ S a w.drew):(Code.region id cQ true).wp P Q a w:=by
 simp only[Bool.and_eq_true,beq_iff_eq]at hc;obtain⟨h1,h2,h3⟩:=hc;have hw:=ZhB h1 hQ σ σ S _ true a _ h3 (λ_=>hS) (h hS);rw[h2]at hw;exact wp_region_any hm (Zfw _ _ _ _ _ hw)
theorem ZpM{l:List Oper}(hi:nth l i=some o)(hw:Region.wanted o (yielded l.toArray a.tmps)=false)
  (h:Zae P l.toArray Q r S (a.put o.dst undef) w):Zae P l.toArray Q ((i,k)::r) S a w:=⟨o,(Zgz l i).symm.trans hi,by rw[ZPn (by rw[hw];simp)];exact h⟩
theorem Zf{l:List Oper}(hi:nth l i=some o)(hw:Region.wanted o (yielded l.toArray a.tmps)=true)
  (hv:∀w',S w'->(execOp a.eval o).run P w'=.ok (.value v) w') (h:Zae P l.toArray Q r S (a.put o.dst v) w):Zae P l.toArray Q ((i,0)::r) S a w :=
 ⟨o,(Zgz l i).symm.trans hi,by rw[ZPp hw,ZPp rfl];exact⟨v,hv,h⟩⟩
theorem Zfr{l:List Oper}(hi:nth l i=some o)(hw:Region.wanted o (yielded l.toArray a.tmps)=true)
  (hv:∀w',(execOp a.eval o).run P w'=.ok (.value v) w') (h:Zae P l.toArray Q r S (a.put o.dst v) w):Zae P l.toArray Q ((i,3)::r) S a w :=
 ⟨o,(Zgz l i).symm.trans hi,by rw[ZPp hw,ZPn ZJ,ZPp rfl];exact⟨v,hv,h⟩⟩
theorem Zlw{l:List Oper}(hi:nth l i=some o)(hw:Region.wanted o (yielded l.toArray a.tmps)=true)
  (h:∀K:Act->World->Prop,Shut (∀(S':World->Prop) a' w',(∀x,S' x->S x)->S' w'->(S' w'->Zae P l.toArray Q r S' a' w')->K a' w')->Oper.wp P o a w K Q):Zae P l.toArray Q ((i,1)::r) S a w :=
 ⟨o,(Zgz l i).symm.trans hi,by rw[ZPp hw,ZPn ZJ,ZPn ZJ,ZPp rfl];exact h _ (λS' a' w' h1 h2 hW=>⟨S',h1,h2,hW h2⟩)⟩
theorem Zro{l:List Oper}(hi:nth l i=some o)(hw:Region.wanted o (yielded l.toArray a.tmps)=true)
  (h:∀K:Act->World->Prop,Shut (∀a' w',Zae P l.toArray Q r S a' w'->K a' w')->Oper.wp P o a w K Q):Zae P l.toArray Q ((i,2)::r) S a w :=
 ⟨o,(Zgz l i).symm.trans hi,by rw[ZPp hw,ZPn ZJ,ZPn ZJ,ZPn ZJ];exact h _ (λa' w' hW=>hW)⟩
theorem Zrp(h:Q .normal a w):Zae P cQ Q [] S a w:=h
end
theorem ZSa{l:List Oper}(h:Zae P l.toArray Q r S (a.put o.dst undef) w)(hi:nth l i=some o:=by rfl)(hw:Region.wanted o (yielded l.toArray a.tmps)=false:=by rfl):Zae P l.toArray Q ((i,k)::r) S a w:=ZpM hi hw h
theorem ZSb{l:List Oper}(h:Zae P l.toArray Q r S (a.put o.dst v) w)(hi:nth l i=some o:=by rfl)(hw:Region.wanted o (yielded l.toArray a.tmps)=true:=by rfl)
  (hv:∀w',(execOp a.eval o).run P w'=.ok (.value v) w':=by intro w';go_simp;with_reducible rfl):Zae P l.toArray Q ((i,3)::r) S a w:=Zfr hi hw hv h
theorem ZSc{l:List Oper}(h:Zae P l.toArray Q r S (a.put o.dst v) w)(hi:nth l i=some o:=by rfl)(hw:Region.wanted o (yielded l.toArray a.tmps)=true:=by rfl)
  (hv:∀w',S w'->(execOp a.eval o).run P w'=.ok (.value v) w':=by intro w' hS;have ny:=hS.cells;go_simp;with_reducible rfl):Zae P l.toArray Q ((i,0)::r) S a w:=Zf hi hw hv h
theorem ZSd{l:List Oper}
  (h:∀K:Act->World->Prop,Shut (∀(S':World->Prop) a' w',(∀x,S' x->S x)->S' w'->(S' w'->Zae P l.toArray Q r S' a' w')->K a' w')->Oper.wp P o a w K Q) (hi:nth l i=some o:=by rfl) (hw:Region.wanted o (yielded l.toArray a.tmps)=true:=by rfl):Zae P l.toArray Q ((i,1)::r) S a w:=Zlw hi hw h
theorem ZSe{l:List Oper}
  (h:∀K:Act->World->Prop,Shut (∀a' w',Zae P l.toArray Q r S a' w'->K a' w')->Oper.wp P o a w K Q) (hi:nth l i=some o:=by rfl) (hw:Region.wanted o (yielded l.toArray a.tmps)=true:=by rfl):Zae P l.toArray Q ((i,2)::r) S a w:=Zro hi hw h
theorem ZSf{cQ:Array Oper}(h:Q .normal a w):Zae P cQ (NoPanic Q) [] S a w:=Zrp (NoPanic.normal h)
theorem ZSh{cQ:Array Oper}{id:Nat}(S:World->Prop)(σ : List (Nat×Nat))(hS:S w.drew)(h:S w.drew->Zae P cQ (NoPanic Q) σ S a w.drew)(hm:P.follows .mixedOrders=true:=by kernel_rfl)
  (hc:(Region.noSelect cQ&&(σ.length==cQ.size&&ZfE cQ σ σ (Array.replicate cQ.size false) true))=true:=by kernel_rfl):(Code.region id cQ true).wp P Q a w:=wp_region_noPanic (Zkn S σ hm hc (λ_ _ _ _ _ h=>h) hS h)
end
section
section
variable {w w':World}{base e size n:Nat}{v:Value}{xs:List Value}
theorem Zi(h:w.ownsRow base e size v n xs)(hk:∀g,v.ownBlock=some g->g<w.heap.size->w'.heap[g]? = w.heap[g]?):w'.ownsRow base e size v n xs:=by
 obtain⟨h1,h2⟩:=h;refine⟨h1,?_⟩;rcases h2 with h2|⟨g,cap,cur,rfl,hg,hh,r⟩
 ·exact .inl h2
 ·refine .inr ⟨g,cap,cur,rfl,hg,?_,r⟩;have cI:g<w.heap.size:=Blk.lt (t:=e) hh;rw[hk g rfl cI];exact hh
theorem Ze(h:w.ownsRow base e size v n xs)(hb:L_ w w'):w'.ownsRow base e size v n xs:=Zi h λg _ hg=>hb.block g hg
theorem Zb(h:w.ownsRow base e size v n xs)(hg:v.ownBlock=some g):base<=g/\g<w.heap.size:=by
 rcases h.2 with ⟨rfl,_⟩|⟨g',cap,cur,rfl,hb,hh,_⟩
 ·cases hg
 ·injection hg with hg
  subst hg;exact⟨hb,Blk.lt (t:=e) hh⟩
theorem Zj{pj:Nat}(h:w.ownsRow base e size v n xs)(hb:pj<=base):w.ownsRow pj e size v n xs:=by
 obtain⟨h1,h2|⟨g,cap,cur,hv,hg,r⟩⟩:=h
 ·exact⟨h1,.inl h2⟩
 ·exact⟨h1,.inr ⟨g,cap,cur,hv,ZT hb hg,r⟩⟩
end
theorem Blk.ob{cs:Array Value}(h:Blk w g t cs)(hb:L_ w w'):Blk w' g t cs:=h.below hb h.lt
theorem Kept.refl(w:World):K_ w w:=⟨ZW _ _,ZL _⟩
abbrev ZKr:=@Kept.refl
theorem Below.aY{size:Nat}{xs:List Value}(hg:w.grownBy w' v.ownBlock)(h:w.ownsRow B e size v n xs)(hB:B<=w.heap.size):Below B w w' :=
 (ZW B w).grown hg hB (λ_ lm=>(Zb h lm).1)
theorem Blk.ag{v0 v1 v2 v3 v4 v5 v6 v7 v8 v9 yN Dj:Value}(h:Blk w g t #[v0,v1,v2,v3,v4,v5,v6,v7,v8,v9,yN,Dj]):
  w.cell? ⟨g,0,none⟩=some v0/\w.cell? ⟨g,1,none⟩=some v1/\w.cell? ⟨g,2,none⟩=some v2/\w.cell? ⟨g,3,none⟩=some v3/\w.cell? ⟨g,4,none⟩=some v4/\w.cell? ⟨g,5,none⟩=some v5 /\
  w.cell? ⟨g,6,none⟩=some v6/\w.cell? ⟨g,7,none⟩=some v7/\w.cell? ⟨g,8,none⟩=some v8/\w.cell? ⟨g,9,none⟩=some v9/\w.cell? ⟨g,10,none⟩=some yN/\w.cell? ⟨g,11,none⟩=some Dj :=
 ⟨h.cell 0,h.cell 1,h.cell 2,h.cell 3,h.cell 4,h.cell 5,h.cell 6,h.cell 7,h.cell 8,h.cell 9,h.cell 10,h.cell 11⟩
def setAll(w:World)(g:Nat):Nat->List Value->World
 |_,[]=>w
 |i,v::vs=>setAll (w.setCell ⟨g,i,none⟩ v) g (i+1) vs
theorem Zbr{g:Nat}{t:TypeId}:∀(vs:List Value) (i:Nat) (w:World) (cs:List Value),Blk w g t cs.toArray->i+vs.length<=cs.length->Blk (setAll w g i vs) g t (cs.take i++vs++cs.drop (i+vs.length)).toArray
 | [],i,w,cs,h,_=>by simpa [setAll] using h
 |v::vs,i,w,cs,h,hl=>by
  have qV:i+(vs.length+1)<=cs.length:=hl;have h1:=h.aj i v;rw[ZA]at h1;have h2:=Zbr vs (i+1) _ _ h1 (by rw[List.length_set];omega);have e:(cs.set i v).take (i+1)++vs++(cs.set i v).drop (i+1+vs.length)=cs.take i++v::vs++cs.drop (i+(v::vs).length):=by
   have e1:(cs.set i v).take (i+1)=cs.take i++[v]:=by
    rw[List.take_set,List.set_eq_take_append_cons_drop];rw[ZPp (by rw[ZV];omega)];simp[List.take_take]
   have e2:(cs.set i v).drop (i+1+vs.length)=cs.drop (i+(v::vs).length):=by
    rw[List.drop_set_of_lt ZO];congr 1;simp;omega
   rw[e1,e2];simp
  rw[e]at h2;exact h2
theorem Zne{cs vs:List Value}(h:Blk w g t cs.toArray)(hl:vs.length=cs.length):Blk (setAll w g 0 vs) g t vs.toArray:=by
 have:=Zbr vs 0 w cs h ZO;rw[List.take_zero,List.nil_append,List.drop_of_length_le ZO,List.append_nil]at this;exact this
theorem Zal{cs vs:Array Value}(h:Blk w g t cs)(hl:vs.size=cs.size):Blk (setAll w g 0 vs.toList) g t vs:=by
 have h':Blk w g t cs.toList.toArray:=by simpa using h
 have:=Zne (vs:=vs.toList) h' (by simpa using hl);simpa using this
theorem Za3{g:Nat}:∀(vs:List Value) (i:Nat) (w:World),(setAll w g i vs).heap.size=w.heap.size
 | [],_,_=>rfl
 |v::vs,i,w=>by rw[setAll,Za3 vs];simp[World.setCell]
theorem Zai{g k:Nat}(hk:k≠g):∀(vs:List Value) (i:Nat) (w:World),(setAll w g i vs).heap[k]? = w.heap[k]?
 | [],_,_=>rfl
 |v::vs,i,w=>by rw[setAll,Zai hk vs];exact Below.heap_setCell _ _ _ _ hk
theorem ZcB{g:Nat}:∀(vs:List Value) (i:Nat) (w:World),(setAll w g i vs).os=w.os/\(setAll w g i vs).tape=w.tape/\(setAll w g i vs).output=w.output
 | [],_,_=>⟨rfl,rfl,rfl⟩
 |v::vs,i,w=>by rw[setAll];exact ZcB vs (i+1) _
theorem Znd{W:World}{row:Option Nat}(h:w.grownBy W row)(hg:w.heap.size<=g)(i:Nat)(vs:List Value):w.grownBy (setAll W g i vs) row:=by
 obtain⟨h1,h2,h3⟩:=ZcB (g:=g) vs i W;exact⟨h1.trans h.os,h2.trans h.tape,h3.trans h.output,by rw[Za3];exact h.size,λk hk hr=>(Zai ZO vs i W).trans (h.block k hk hr)⟩
end
def Buf(w:World)(B bb:Nat)(l:List Nat):Prop:=∃v,Blk w bb 106 #[v]/\w.ownsRow B 5 1 v l.length (cells l)
theorem ZmO(k:Nat)(w:World):Calls prog 169 #[I_ J_ k] w λe w'=>e=R_ (B_ (decide (k≠1/\k≠2)))/\w=w':=by
 rcases(by omega:k=1∨k=2∨(k≠1/\k≠2)) with rfl|rfl|⟨h1,h2⟩
 rotate_left
 rotate_left
 focus
  have e:decide (k≠1/\k≠2)=true:=ZP;rw[e];have n1:((k:Int) != 1)=true:=ZP;have n2:((k:Int) != 2)=true:=ZP;clear e
 rotate_left
 all_goals
  go_enter func169,ntmps169;go_wp2
  go_ret;exact⟨rfl,rfl⟩
theorem Zjl(n B bb:Nat)(l:List Nat)(w:World)(hn:n<=16777216)(hl:l.length<=100000)(oq:Buf w B bb l)(hB:B<=bb)(FX:B<=w.heap.size):
  Calls prog 167 #[I_ J_ n,P_ (some ⟨bb,0,none⟩)] w λe w'=>e=R_ (.tuple #[])/\Buf w' B bb (l++Zd n)/\Below B w w':=by
 obtain⟨v,cH,dk⟩:=oq;have cB:=cH.cell 0;have gM:=cH.frozen 0;have cI:=cH.lt;simp only[ZD,ZE]at cB;obtain⟨i0,hi,dd,cV,dc⟩:=info_parts ZaJ;obtain⟨HO,HB⟩:=ZH2 dk cH;have hw:IntKind.u64.wrap (n:Int)=(n:Int):=by rw[IntKind.wrap_u64];omega
 clear dk cH;go_enter func167,ntmps167;go_wp2_with fail;refine ZSh (λw'=>Kept w.heap.size w w') [(0,0),(1,3),(2,3),(3,1),(4,2),(5,2)] (Kept.drew ⟨ZW _ _,ZL _⟩) λcu=>?_
 repeat((first|refine ZSa ?_|refine ZSb ?_|refine ZSc ?_);simp only[Act.put,ZA,ZB,ZC])
 refine ZSd λK hK=>?_
 go_simp;refine(Zbg n _ ZO).mono ?_;rintro e w1 ⟨v1,rfl,fF,cz⟩;have dI:=cu.step cz;have J9:=Ze HO.out dI.below;have dm:=HB.out.ob dI.below;have Cy:=dI.le;refine hK.out (λw'=>Kept w.heap.size w w') _ _ (λ_ h=>h) dI (λ_=>?_);clear cu hK K cB gM;obtain⟨a1,c1,rfl,kS⟩:=Bytes.ae fF;have vI:=ZdH hn;refine ZSe λK hK=>?_
 refine Za9 _ (.tmp 3) (.tmp 6) _ rfl B 5 i0 _ 1 1 underlying106 hi dd cV dc rfl ZO v l.length (cells l) rfl J9 w1.heap.size a1 (Zd n).length c1 (cells (Zd n)) rfl kS.reads (Z9 _) ZF ZO ZO ?_;intro v2 w2 dQ eQ _;have dx:=dm.grown eQ (Ne.symm (Zr J9 dm ZJ));have cD:Below B w1 w2:=Below.aY eQ J9 ZO;rw[←Zv]at dQ;obtain⟨a2,c2,rfl,oE⟩:=Bytes.ae dQ;have cB:=dx.cell 0;have gM:=dx.frozen 0;simp only[ZD,ZE]at cB;obtain⟨iX,df⟩:=ZH2 dQ dx;clear dQ dx eQ dm J9 fF;refine hK.out _ _ ?_;clear hK K;repeat((first|refine ZSa ?_|refine ZSb ?_|refine ZSc ?_);simp only[Act.put,ZA,ZB,ZC])
 refine ZSe λK hK=>?_
 go_simp;refine hK.out _ _ ?_;clear hK K;refine ZSf ?_;go_wp2_with fail;have hf:=df.out.aj 0 (S_ a2 (l.length+(Zd n).length) c2);have dR:∀g,(Value.slice a2 (l.length+(Zd n).length) c2).ownBlock=some g->g≠bb:=λg hg he=>Zr iX.out df.out ZJ (by rw[hg,he])
 go_end0
 refine⟨rfl,⟨_,hf,?_⟩,?_⟩
 ·rw[ZI];exact Zi iX.out (λg hg _=>Below.heap_setCell _ _ _ _ (dR g hg))
 ·exact(dI.below.mono FX).trans (cD.setCell hB _)
theorem Zn5(s:ByteArray):Lib.strCells s=cells (bs s):=by
 simp[Lib.strCells,cells,bs]
theorem Zm2(s:ByteArray)(B bb:Nat)(l:List Nat)(w:World)(hn:s.size<=12)(hl:l.length<=100000)(oq:Buf w B bb l)(hB:B<=bb)(FX:B<=w.heap.size):
  Calls prog 168 #[T_ s,P_ (some ⟨bb,0,none⟩)] w λe w'=>e=R_ (.tuple #[])/\Buf w' B bb (l++s.size::bs s)/\Below B w w':=by
 obtain⟨v,cH,dk⟩:=oq;have cB:=cH.cell 0;have gM:=cH.frozen 0;have cI:=cH.lt;simp only[ZD,ZE]at cB;obtain⟨i0,hi,dd,cV,dc⟩:=info_parts ZaJ;obtain⟨HO,HB⟩:=ZH2 (dk.alloc (C_ #[.int .u8 (s.size:Int)] 5)) (cH.alloc (C_ #[.int .u8 (s.size:Int)] 5));have hw:IntKind.u8.wrap (s.size:Int)=(s.size:Int):=by rw[IntKind.wrap_u8];omega
 clear dk cH;go_enter func168,ntmps168
 go_wp2_with (first
  |(at_builtin;refine Zc _ rfl (.tmp 3) (.tmp 7) _ rfl B 5 i0 _ 1 1 underlying106 hi dd cV dc rfl ZO v l.length (cells l) rfl HO.out (w.heap.size+1) (some ⟨w.heap.size,0,none⟩) 1 1 [.int .u8 (s.size:Int)] rfl (Ze8 _ _ _) (by intro u hu;simp at hu;subst hu;rfl) ZF ZO ZP ?_;intro v2 w2 dQ eQ _
    rw[ZdN]at dQ;obtain⟨a2,c2,rfl,_⟩:=Bytes.ae dQ;have dx:=HB.out.grown eQ (Ne.symm (Zr HO.out HB.out ZJ));have cD:Below B w w2:=((ZW B w).alloc FX _).trans (Below.aY eQ HO.out ZP);have mB:=dx.cell 0;have Ch:=dx.frozen 0;simp only[ZD,ZE]at mB;have dR:∀g,(Value.slice a2 (l.length+1) c2).ownBlock=some g->g≠bb:=λg hg he=>Zr dQ dx ZJ (by rw[hg,he])
    have dN:=ZH (dx.aj 0 (S_ a2 (l.length+1) c2));have iR:Hid ((w2.setCell ⟨bb,0,none⟩ (S_ a2 (l.length+1) c2)).ownsRow B 5 1 (S_ a2 (l.length+1) c2) (l.length+1) (cells (l++[s.size]))):=ZH (Zi dQ (λg hg _=>Below.heap_setCell _ _ _ _ (dR g hg)));have cG:=cD.setCell (p:=⟨bb,0,none⟩) hB (S_ a2 (l.length+1) c2)
    clear dQ eQ dx cD dR cB gM)
  |(refine Lib.wpList_append_own_string _ rfl (.tmp 9) (.tmp 10) _ _ rfl B 5 i0 underlying106 underlying9 hi dd cV dc (S_ a2 (l.length+1) c2) (l.length+1) _ rfl iR.out s rfl ZF ZO (ZT FX cG.size) ?_;intro v4 w4 cJ dL _
    have e5:cells (l++[s.size])++Lib.strCells s=cells (l++s.size::bs s):=by rw[Zn5,←Zv];simp
    rw[e5]at cJ;obtain⟨a4,c4,rfl,_⟩:=Bytes.ae cJ;have jB:=dN.out.grown dL (Ne.symm (Zr iR.out dN.out ZJ));have cS:Below B w w4:=cG.trans (Below.aY dL iR.out (ZT FX cG.size));have BZ:=jB.cell 0;have hfr4:=jB.frozen 0;simp only[ZA,ZB,ZD,ZE]at BZ;have dR:∀g,(Value.slice a4 (l.length+1+s.size) c4).ownBlock=some g->g≠bb:=λg hg he=>Zr cJ jB ZJ (by rw[hg,he])
    have lX:=ZH (jB.aj 0 (S_ a4 (l.length+1+s.size) c4));have te:Hid ((w4.setCell ⟨bb,0,none⟩ (S_ a4 (l.length+1+s.size) c4)).ownsRow B 5 1 (S_ a4 (l.length+1+s.size) c4) (l.length+1+s.size) (cells (l++s.size::bs s))):=ZH (Zi cJ (λg hg _=>Below.heap_setCell _ _ _ _ (dR g hg)));have dH:=cS.setCell (p:=⟨bb,0,none⟩) hB (S_ a4 (l.length+1+s.size) c4)
    clear cJ dL jB cS dR e5 mB Ch))
 go_end0
 refine⟨rfl,⟨S_ a4 (l.length+1+s.size) c4,?_,?_⟩,dH⟩
 ·have h:=lX.out;simp only[ZA,ZB]at h;exact h
 ·have e:(l++s.size::bs s).length=l.length+1+s.size:=by simp[Zdx];omega
  rw[e];exact te.out
theorem Ztv(w1:World)(x y:Nat):Buf ((w1.alloc (C_ #[.int .u8 x,.int .u8 y] 5)).alloc (C_ #[S_ (some ⟨w1.heap.size,0,none⟩) 2 2] 106)) w1.heap.size (w1.heap.size+1) [x,y]:=by
 refine⟨S_ (some ⟨w1.heap.size,0,none⟩) 2 2,?_,?_⟩
 ·have h:=ZBn (w1.alloc (C_ #[.int .u8 x,.int .u8 y] 5)) 106 #[S_ (some ⟨w1.heap.size,0,none⟩) 2 2];have e1:(w1.alloc (C_ #[.int .u8 x,.int .u8 y] 5)).heap.size=w1.heap.size+1:=ZM;rw[e1]at h;exact h
 ·have h:(w1.alloc (C_ #[.int .u8 x,.int .u8 y] 5)).ownsRow w1.heap.size 5 1 (S_ (some ⟨w1.heap.size,0,none⟩) 2 2) 2 (cells [x,y]) :=
   ⟨rfl,.inr ⟨w1.heap.size,2,#[.int .u8 x,.int .u8 y],rfl,ZL _,ZBn w1 5 _,ZL _,by unfold maxLen;omega,rfl,rfl⟩⟩
  exact h.alloc _
abbrev evArr(e:Ev):Array Value:=#[I_ J_ e.r,I_ J_ e.n,I_ J_ e.ctx.c0,I_ J_ e.ctx.c1,I_ J_ e.ctx.c2,I_ J_ e.ctx.c3,I_ J_ e.ctx.c4,I_ J_ e.height,I_ J_ e.kind,T_ e.key,I_ J_ e.label,T_ e.value]
structure PutSt(w W:World)(g B:Nat)(e:Ev)(l:List Nat):Prop where
 buf:Buf W B (B+1) l
 box:Blk W g 89 (evArr e)
 kept:Kept g w W
 le:B<=W.heap.size
 len:l.length<=100000
theorem PutSt.step{W W':World}{e:Ev}{l':List Nat}(h:PutSt w W g B e l)(hg:g<B)(hb:Below B W W')(oq:Buf W' B (B+1) l')(hl:l'.length<=100000):PutSt w W' g B e l' :=
 ⟨oq,h.box.below hb hg,h.kept.trans ⟨hb,ZT h.le hb.size⟩ (Nat.le_of_lt hg),ZT h.le hb.size,hl⟩
theorem Zeg(e:Ev)(w:World)(he:e.Ok):Calls prog 121 #[Zaj e] w λr w'=>∃v,r=R_ (.tuple #[v,I_ J_ 0])/\w'.ownsRow w.heap.size 5 1 v (evBytes e).length (cells (evBytes e))/\Below w.heap.size w w':=by
 have HE:=ZH he;have h1:=he.r;have h2:=he.n2;have h3:=he.h2;have h4:=he.ctx;have h5:=he.edit.kind5;have h6:=he.edit.kind1;have dD:IntKind.u8.wrap (e.kind:Int)=(e.kind:Int):=by rw[IntKind.wrap_u8];omega
 have ee:IntKind.u8.wrap (e.r:Int)=(e.r:Int):=by rw[IntKind.wrap_u8];omega
 have H4:=ZH h4;clear he h4;obtain⟨i0,hi,dd,cV,dc⟩:=info_parts ZaJ;go_enter func121,ntmps121;go_wp2_with fail;refine(Ze5 e _ HE.out).mono ?_;rintro r w1 ⟨rfl,cz⟩;have dI:Kept w.heap.size w w1:=((Kept.start (ZW w.heap.size w)).alloc _).step cz;have fW:=(ZBn w 89 _).ob cz;have cI:=fW.lt;obtain⟨c0,c1,c2,c3,c4,c5,c6,c7,c8,c9,dg,dh⟩:=fW.ag;have HX:=ZH fW;have eE:=ZL w.heap.size;clear cz fW;generalize hg:w.heap.size=g at *;have HG:=ZH hg;clear hg;have zo:∃B,B=w1.heap.size:=⟨_,rfl⟩;obtain⟨B,zo⟩:=zo;have oq:=Ztv w1 e.kind e.r;rw[←zo]at oq;have Oz:Kept g w ((w1.alloc (C_ #[.int .u8 e.kind,.int .u8 e.r] 5)).alloc (C_ #[S_ (some ⟨w1.heap.size,0,none⟩) 2 2] 106)):=(dI.alloc _).alloc _;have Px:=(HX.out.alloc (C_ #[.int .u8 e.kind,.int .u8 e.r] 5)).alloc (C_ #[S_ (some ⟨w1.heap.size,0,none⟩) 2 2] 106);have Pf:B<=((w1.alloc (C_ #[.int .u8 e.kind,.int .u8 e.r] 5)).alloc (C_ #[S_ (some ⟨w1.heap.size,0,none⟩) 2 2] 106)).heap.size:=by rw[zo];simp;omega
 rw[←zo]at Px Oz Pf;have wQ:=ZH zo;have Cj:g<B:=by rw[zo];exact cI
 clear zo;have gc:Hid (PutSt w _ g B e [e.kind,e.r]):=ZH (⟨oq,Px,Oz,Pf,ZM⟩);clear oq Px Oz Pf;have L1:=ZdH (show e.n<=16777216 by omega);have L2:=ZdH h3;have Qk:=ZH (ZhN e.r H4.out);have L4:=HE.out.edit.key.2.1;go_wp2_with fail;rw[←wQ.out];generalize (w1.alloc (C_ #[.int .u8 e.kind,.int .u8 e.r] 5)).alloc (C_ #[S_ (some ⟨B,0,none⟩) 2 2] 106)=wa at *;clear c0 c1 c2 c3 c4 c5 c6 c7 c8 c9 dg dh dI cI;have lz:=gc.out.len;refine(Zjl e.n B (B+1) _ _ ZO lz gc.out.buf ZO gc.out.le).mono ?_;rintro r w2 ⟨rfl,zA,cD⟩;have mP:=gc.out.step Cj cD zA ZP;obtain⟨c0,c1,c2,c3,c4,c5,c6,c7,c8,c9,dg,dh⟩:=mP.box.ag;have MP:=ZH mP;clear mP zA cD lz;go_wp2_with fail;clear c0 c1 c2 c3 c4 c5 c6 c7 c8 c9 dg dh;go_loopw [8,9,30] (λ_ _ i wr=>∃k:Nat,k<=5/\i=I_ J_ k/\Hid (PutSt w wr g B e ([e.kind,e.r]++Zd e.n++Zas e.ctx e.r k))) (λ_ _ i _=>5-(intOf i).toNat)
 case atStart=>exact⟨0,ZO,rfl,by simpa [Zas] using MP⟩
 case round =>
  obtain⟨k,hk,rfl,sd⟩:=hrel;obtain⟨c0,c1,c2,c3,c4,c5,c6,c7,c8,c9,dg,dh⟩:=sd.out.box.ag;have lk:=Qk.out k;by_cases eM:k<5
  ·have kF:=λw=>Zao e.ctx k eM w
   have hm:=H4.out k;rcases Nat.decEq k e.r with ig|ig
   focus
    have dR:((k:Int) != (e.r:Int))=true:=ZP;go_wp2_with fail;refine(Zjl (e.ctx.get k) B (B+1) _ _ ZO sd.out.len sd.out.buf ZO sd.out.le).mono ?_;rintro r w3 ⟨rfl,pB,cG⟩;have lp:=ZdH (show e.ctx.get k<=16777216 by omega);have mQ:=sd.out.step Cj cG pB ZP;have e1:[e.kind,e.r]++Zd e.n++Zas e.ctx e.r k++Zd (e.ctx.get k)=[e.kind,e.r]++Zd e.n++Zas e.ctx e.r (k+1):=by simp only[Zas];rw[ZPn ig];simp
    rw[e1]at mQ;have qA:=ZH mQ;clear mQ pB cG e1 lp
   rotate_left
   focus
    have dR:((k:Int) != (e.r:Int))=false:=ZP;have e1:[e.kind,e.r]++Zd e.n++Zas e.ctx e.r k=[e.kind,e.r]++Zd e.n++Zas e.ctx e.r (k+1):=by simp only[Zas];rw[ZPp ig];simp
    have mQ:=sd.out;rw[e1]at mQ;have qA:=ZH mQ;clear mQ e1 ig
   rotate_left
   all_goals
    go_wp2
    go_roundw
    case rel=>exact⟨k+1,ZO,ZN,qA⟩
    case measure=>simp[intOf];omega
  ·obtain rfl:k=5:=ZO;go_wp2_with fail;refine(Zjl e.height B (B+1) _ _ ZO sd.out.len sd.out.buf ZO sd.out.le).mono ?_;rintro r w3 ⟨rfl,pB,cG⟩;have mQ:=sd.out.step Cj cG pB ZP;clear c0 c1 c2 c3 c4 c5 c6 c7 c8 c9 dg dh;obtain⟨c0,c1,c2,c3,c4,c5,c6,c7,c8,c9,dg,dh⟩:=mQ.box.ag;have qA:=ZH mQ;clear mQ pB cG;go_wp2_with fail;refine(Zm2 e.key B (B+1) _ _ ZO qA.out.len qA.out.buf ZO qA.out.le).mono ?_;rintro r w4 ⟨rfl,zB,cS⟩;have CT:=qA.out.step Cj cS zB (by simp[Zdx];omega);clear c0 c1 c2 c3 c4 c5 c6 c7 c8 c9 dg dh;obtain⟨c0,c1,c2,c3,c4,c5,c6,c7,c8,c9,dg,dh⟩:=CT.box.ag;have se:=ZH CT;clear CT zB cS;go_wp2_with fail;refine(ZmO e.kind _).mono ?_;rintro r w5 ⟨rfl,rfl⟩;rcases Nat.lt_or_ge 2 e.kind with cX|cX
   focus
    have hd:decide (e.kind≠1/\e.kind≠2)=true:=ZP;rw[hd];clear hd;obtain⟨l1,l2,l3⟩:=HE.out.edit.long cX;have mV:IntKind.u8.wrap (e.label:Int)=(e.label:Int):=by rw[IntKind.wrap_u8];omega
    obtain⟨v,cH,dk⟩:=se.out.buf;have lz:=se.out.len;have cB:=cH.cell 0;have gM:=cH.frozen 0;have sH:=cH.lt;simp only[ZD,ZE]at cB;obtain⟨HO,HB⟩:=ZH2 (dk.alloc (C_ #[.int .u8 (e.label:Int)] 5)) (cH.alloc (C_ #[.int .u8 (e.label:Int)] 5));have pK:=se.out.le;have LS:=ZH lz;have NN:∃L,L=([e.kind,e.r]++Zd e.n++Zas e.ctx e.r 5++Zd e.height++(e.key.size::bs e.key)):=⟨_,rfl⟩;obtain⟨L,hL⟩:=NN;rw[←hL]at HO se LS;have lL:L.length<=100:=by
     have:=Qk.out 5;rw[hL];simp[Zdx];omega
    have HL:=ZH hL;clear cH dk lz hL
    go_wp2_with (first
     |(at_builtin;refine Zc _ rfl (.tmp 53) (.tmp 57) _ rfl B 5 i0 _ 1 1 underlying106 hi dd cV dc rfl ZO v L.length (cells L) rfl HO.out (w4.heap.size+1) (some ⟨w4.heap.size,0,none⟩) 1 1 [.int .u8 (e.label:Int)] rfl (Ze8 _ _ _) (by intro u hu;simp at hu;subst hu;rfl) (by have:=LS.out;simp only[maxLen];omega) (by have:=LS.out;omega) ZP ?_;intro v2 wb dQ eQ _
       rw[ZdN]at dQ;obtain⟨a2,FA,rfl,_⟩:=Bytes.ae dQ;have dx:=HB.out.grown eQ (Ne.symm (Zr HO.out HB.out ZJ));have cD:Below B w4 wb:=((ZW B w4).alloc pK _).trans (Below.aY eQ HO.out ZP);have mB:=dx.cell 0;have Ch:=dx.frozen 0;simp only[ZD,ZE]at mB;have dR:∀g,(Value.slice a2 (L.length+1) FA).ownBlock=some g->g≠B+1:=λg hg he=>Zr dQ dx ZJ (by rw[hg,he])
       have fK:=dx.aj 0 (S_ a2 (L.length+1) FA);have zr:(wb.setCell ⟨B+1,0,none⟩ (S_ a2 (L.length+1) FA)).ownsRow B 5 1 (S_ a2 (L.length+1) FA) (L.length+1) (cells (L++[e.label])):=Zi dQ (λg hg _=>Below.heap_setCell _ _ _ _ (dR g hg));have cG:=cD.setCell (p:=⟨B+1,0,none⟩) (by show B<=B+1;omega) (S_ a2 (L.length+1) FA);simp only[ZA,ZB]at fK;have CU:=se.out.step (l':=L++[e.label]) Cj cG ⟨_,fK,by rw[ZI];exact zr⟩ (by rw[ZI];simp;omega);clear c0 c1 c2 c3 c4 c5 c6 c7 c8 c9 dg dh;obtain⟨c0,c1,c2,c3,c4,c5,c6,c7,c8,c9,dg,dh⟩:=CU.box.ag;have xy:=ZH CU
       clear dQ eQ dx cD dR fK zr cB gM cG CU))
    refine(Zm2 e.value B (B+1) _ _ ZO xy.out.len xy.out.buf ZO xy.out.le).mono ?_;rintro r w6 ⟨rfl,zC,eK⟩;have oH:=xy.out.step Cj eK zC (by simp[Zdx];omega);have e1:L++[e.label]++e.value.size::bs e.value=evBytes e:=by rw[HL.out];simp only[evBytes,Zcf];rw[ZPp cX];simp
    rw[e1]at oH;obtain⟨v6,pz,pP⟩:=oH.buf;have qQ:=pz.cell 0;simp only[ZD,ZE]at qQ;obtain⟨nd,nY⟩:=ZH2 oH.kept pP;clear oH zC eK mB Ch e1 pz pP
   rotate_left
   focus
    have hd:decide (e.kind≠1/\e.kind≠2)=false:=ZP;rw[hd];clear hd;have oH:=se.out;have e1:[e.kind,e.r]++Zd e.n++Zas e.ctx e.r 5++Zd e.height++(e.key.size::bs e.key)=evBytes e:=by simp only[evBytes,Zcf];rw[ZPn ZO];simp
    rw[e1]at oH;obtain⟨v6,pz,pP⟩:=oH.buf;have qQ:=pz.cell 0;simp only[ZD,ZE]at qQ;obtain⟨nd,nY⟩:=ZH2 oH.kept pP;clear oH e1 pz pP
   rotate_left
   all_goals
    go_wp2_with fail;go_ret2
    refine⟨v6,rfl,?_,?_⟩
    ·rw[HG.out];exact Zj nY.out (Nat.le_of_lt Cj)
    ·rw[HG.out];exact nd.out.below
def Za0(l:List Nat)(w:World)(e:Ending)(w':World):Prop:=e=R_ (.tuple #[.int .u64 ((Zdv l).1:Nat),I_ J_ ((Zdv l).2.1:Nat),I_ J_ ((Zdv l).2.2:Nat)])/\w=w'
theorem Zek{a:Nat}(h:Zdv l=(a,b,c)):Za0 l w (R_ (.tuple #[.int .u64 (a:Nat),I_ J_ (b:Nat),I_ J_ (c:Nat)])) w:=by
 unfold Za0;rw[h];exact⟨rfl,rfl⟩
theorem Zow(h:128<=c)(h2:c<256):c%128=c-128:=ZO
theorem Zlk(h:c<128):c%128=c:=ZO
theorem Zs6(b off n0 cap:Nat)(l:List Nat)(w:World)(nw:10<n0)(hl:l.length=10)(hs:∀x∈l,x<256)(gG:n0<=cap)(iK:cap<=maxLen)
  (hc:∀i,i<10->w.cell? ⟨b,off+i,none⟩=some (.int .u8 ((l.getD i 0:Nat):Int))) :
  Calls prog 171 #[S_ (some ⟨b,off,none⟩) n0 cap] w (Za0 l w):=by
 unfold maxLen at iK;obtain⟨HC,HS,HL⟩:=ZH3 hc hs hl;clear hc hs hl;go_enter func171,ntmps171;go_wp2_with fail;go_loop [14,2] (λi x=>∃(k X:Nat),k<=10/\i=I_ J_ k/\x=.int .u64 X/\Hid (∀j,j<k->128<=l.getD j 0)/\Hid (k<=9->X=val (l.take k))) (λi _=>10-(intOf i).toNat)
 case atStart=>exact⟨0,0,ZO,rfl,rfl,λj hj=>ZO,λ_=>rfl⟩
 case round =>
  obtain⟨k,X,hk,rfl,rfl,HG,HV⟩:=hrel;by_cases cI:k<10
  ·have fL:=HC.out k cI;have fm:k<l.length:=by rw[HL.out];exact cI
   have cY:l.getD k 0<256:=HS.out _ (by simp[List.getD,fm]);have mT:=Zhz fm;have mG:=λ(h:l.getD k 0<128) hb=>Zhj fm HG.out h hb
   have qN:=λ(h:l.getD k 0<128) hb=>ZlE fm HG.out h hb
   have ie:128<=l.getD k 0->∀j,j<k+1->128<=l.getD j 0:=λh j hj=>by
    rcases Nat.lt_or_ge j k with h1|h1
    ·exact HG.out j h1
    ·obtain rfl:j=k:=ZO;exact h
   have hlen:(l.take k).length=k:=by rw[ZV];omega
   have sY:=Znk (l.take k);rw[hlen]at sY;generalize l.getD k 0=c at fL cY mT mG qN ie;obtain⟨ui,tG,AH,EF,Bm⟩:=ZH5 mT mG qN ie sY;clear mT mG qN ie hlen sY fm;by_cases qG:128<=c
   ·by_cases km:k<=8
    ·have e1:X=val (l.take k):=HV.out ZO;have eP:=Zis (X:=X) (d:=c-128) (k:=k) (by rw[e1];exact Bm.out) (Or.inl ⟨km,ZO⟩);have ec:((c-128:Nat):Int)=(c:Int)-128:=ZO;rw[ec]at eP;have gc:=ZH eP;have hn:X+(c-128)*128 ^ k=val (l.take (k+1)):=by rw[ui.out,Zow qG cY,e1]
     have nK:=ZH hn;clear eP ec hn e1;go_wp2_with fail;rw[gc.out,nK.out];go_round
     case rel=>exact⟨k+1,_,ZO,ZN,rfl,EF.out qG,λ_=>rfl⟩
     case measure=>simp[intOf];omega
    ·obtain⟨Z,hZ⟩:=Zoy X (((c:Int)-128)*2 ^ (7*k));have HZ:=ZH hZ;clear hZ;go_wp2_with fail;rw[HZ.out];go_round
     case rel=>exact⟨k+1,Z,ZO,ZN,rfl,EF.out qG,λh=>ZO⟩
     case measure=>simp[intOf];omega
   ·have ot:c<128:=ZO;by_cases hb:(0<k/\c=0)∨(k=9/\1<c)
    ·have hT:=Zek (w:=w) (AH.out ot hb);have HT:=ZH hT;clear hT;rcases hb with ⟨cR,rfl⟩|⟨l7,kM⟩
     ·have qT:(0:Int)<k:=ZO;go_wp2_with fail;go_ret3
      exact HT.out
     ·have BX:((c:Int)==0)=false:=ZP;have qU:((k:Int)==9)=true:=ZP;have qT:(0:Int)<k:=ZO;clear l7;have wm:(1:Int)<c:=ZO;go_wp2_with fail;go_ret3
      exact HT.out
    ·have oT:(k<=8/\c<128)∨(k=9/\c<=1):=ZO;have e1:X=val (l.take k):=HV.out ZO;have eP:=Zis (X:=X) (d:=c) (k:=k) (by rw[e1];exact Bm.out) oT;have hn:X+c*128 ^ k=val (l.take (k+1)):=by rw[ui.out,Zlk ot,e1]
     rw[hn]at eP;have gc:=ZH eP;have hT:=Zek (w:=w) (tG.out ot hb);have HT:=ZH hT;clear eP hn hT e1;by_cases cR:k=0
     ·have qT:(k:Int)<=0:=ZO;have qU:((k:Int)==9)=false:=ZP;have dZ:decide (0<k)=false:=ZP;clear cR;go_wp2_with fail;go_ret3
      show Za0 l w (R_ (.tuple #[.int .u64 (bits .or .u64 (X:Int) (IntKind.u64.wrap ((c:Int)*2 ^ (7*k)))),I_ J_ ((k:Int)+1),I_ J_ 0])) w
      rw[gc.out];exact HT.out
     ·have qT:(0:Int)<k:=ZO;have BX:((c:Int)==0)=false:=ZP;by_cases l7:k=9;focus
       have qU:((k:Int)==9)=true:=ZP;have wm:(c:Int)<=1:=ZO;clear l7 cR
      rotate_left
      focus
       have qU:((k:Int)==9)=false:=ZP
      rotate_left
      all_goals
       go_wp2_with fail;go_ret3
       show Za0 l w (R_ (.tuple #[.int .u64 (bits .or .u64 (X:Int) (IntKind.u64.wrap ((c:Int)*2 ^ (7*k)))),I_ J_ ((k:Int)+1),I_ J_ 0])) w
       rw[gc.out];exact HT.out
  ·have gh:10=k:=ZO;have gY:=Zft (l:=l) (λj hj=>HG.out j (by rw[HL.out]at hj;omega));rw[HL.out]at gY;have hT:=Zek (w:=w) gY;have HT:=ZH hT;clear gY hT gh;go_wp2_with fail;go_ret3
   exact HT.out
theorem ZpZ(b off n cap:Nat)(l:List Nat)(w:World)(QT:n<=10)(hl:l.length=n)(hs:∀x∈l,x<256)(gG:n<=cap)(iK:cap<=maxLen)
  (hc:∀i,i<n->w.cell? ⟨b,off+i,none⟩=some (.int .u8 ((l.getD i 0:Nat):Int))) :
  Calls prog 171 #[S_ (some ⟨b,off,none⟩) n cap] w (Za0 l w):=by
 unfold maxLen at iK;obtain⟨HC,HS,HL⟩:=ZH3 hc hs hl;clear hc hs hl;go_enter func171,ntmps171;go_wp2_with fail;go_loop [14,2] (λi x=>∃(k X:Nat),k<=n/\i=I_ J_ k/\x=.int .u64 X/\Hid (∀j,j<k->128<=l.getD j 0)/\Hid (k<=9->X=val (l.take k))) (λi _=>n-(intOf i).toNat)
 case atStart=>exact⟨0,0,ZO,rfl,rfl,λj hj=>ZO,λ_=>rfl⟩
 case round =>
  obtain⟨k,X,hk,rfl,rfl,HG,HV⟩:=hrel;by_cases cI:k<n
  ·have fL:=HC.out k cI;have fm:k<l.length:=by rw[HL.out];exact cI
   have cY:l.getD k 0<256:=HS.out _ (by simp[List.getD,fm]);have mT:=Zhz fm;have mG:=λ(h:l.getD k 0<128) hb=>Zhj fm HG.out h hb
   have qN:=λ(h:l.getD k 0<128) hb=>ZlE fm HG.out h hb
   have ie:128<=l.getD k 0->∀j,j<k+1->128<=l.getD j 0:=λh j hj=>by
    rcases Nat.lt_or_ge j k with h1|h1
    ·exact HG.out j h1
    ·obtain rfl:j=k:=ZO;exact h
   have hlen:(l.take k).length=k:=by rw[ZV];omega
   have sY:=Znk (l.take k);rw[hlen]at sY;generalize l.getD k 0=c at fL cY mT mG qN ie;obtain⟨ui,tG,AH,EF,Bm⟩:=ZH5 mT mG qN ie sY;clear mT mG qN ie hlen sY fm;by_cases qG:128<=c
   ·by_cases km:k<=8
    ·have e1:X=val (l.take k):=HV.out ZO;have eP:=Zis (X:=X) (d:=c-128) (k:=k) (by rw[e1];exact Bm.out) (Or.inl ⟨km,ZO⟩);have ec:((c-128:Nat):Int)=(c:Int)-128:=ZO;rw[ec]at eP;have gc:=ZH eP;have hn:X+(c-128)*128 ^ k=val (l.take (k+1)):=by rw[ui.out,Zow qG cY,e1]
     have nK:=ZH hn;clear eP ec hn e1;go_wp2_with fail;rw[gc.out,nK.out];go_round
     case rel=>exact⟨k+1,_,ZO,ZN,rfl,EF.out qG,λ_=>rfl⟩
     case measure=>simp[intOf];omega
    ·obtain⟨Z,hZ⟩:=Zoy X (((c:Int)-128)*2 ^ (7*k));have HZ:=ZH hZ;clear hZ;go_wp2_with fail;rw[HZ.out];go_round
     case rel=>exact⟨k+1,Z,ZO,ZN,rfl,EF.out qG,λh=>ZO⟩
     case measure=>simp[intOf];omega
   ·have ot:c<128:=ZO;by_cases hb:(0<k/\c=0)∨(k=9/\1<c)
    ·have hT:=Zek (w:=w) (AH.out ot hb);have HT:=ZH hT;clear hT;rcases hb with ⟨cR,rfl⟩|⟨l7,kM⟩
     ·have qT:(0:Int)<k:=ZO;go_wp2_with fail;go_ret3
      exact HT.out
     ·have BX:((c:Int)==0)=false:=ZP;have qU:((k:Int)==9)=true:=ZP;have qT:(0:Int)<k:=ZO;clear l7;have wm:(1:Int)<c:=ZO;go_wp2_with fail;go_ret3
      exact HT.out
    ·have oT:(k<=8/\c<128)∨(k=9/\c<=1):=ZO;have e1:X=val (l.take k):=HV.out ZO;have eP:=Zis (X:=X) (d:=c) (k:=k) (by rw[e1];exact Bm.out) oT;have hn:X+c*128 ^ k=val (l.take (k+1)):=by rw[ui.out,Zlk ot,e1]
     rw[hn]at eP;have gc:=ZH eP;have hT:=Zek (w:=w) (tG.out ot hb);have HT:=ZH hT;clear eP hn hT e1;by_cases cR:k=0
     ·have qT:(k:Int)<=0:=ZO;have qU:((k:Int)==9)=false:=ZP;have dZ:decide (0<k)=false:=ZP;clear cR;go_wp2_with fail;go_ret3
      show Za0 l w (R_ (.tuple #[.int .u64 (bits .or .u64 (X:Int) (IntKind.u64.wrap ((c:Int)*2 ^ (7*k)))),I_ J_ ((k:Int)+1),I_ J_ 0])) w
      rw[gc.out];exact HT.out
     ·have qT:(0:Int)<k:=ZO;have BX:((c:Int)==0)=false:=ZP;by_cases l7:k=9;focus
       have qU:((k:Int)==9)=true:=ZP;have wm:(c:Int)<=1:=ZO;clear l7 cR
      rotate_left
      focus
       have qU:((k:Int)==9)=false:=ZP
      rotate_left
      all_goals
       go_wp2_with fail;go_ret3
       show Za0 l w (R_ (.tuple #[.int .u64 (bits .or .u64 (X:Int) (IntKind.u64.wrap ((c:Int)*2 ^ (7*k)))),I_ J_ ((k:Int)+1),I_ J_ 0])) w
       rw[gc.out];exact HT.out
  ·have gh:n=k:=ZO;have gY:=Zft (l:=l) (λj hj=>HG.out j (by rw[HL.out]at hj;omega));rw[HL.out]at gY;subst gh;by_cases h9:n=10
   ·rw[ZPp h9]at gY;have hT:=Zek (w:=w) gY;have HT:=ZH hT;have Vn:((n:Int)==10)=true:=ZP;clear gY hT h9;go_wp2_with fail;go_ret3
    exact HT.out
   ·rw[ZPn h9]at gY;have hT:=Zek (w:=w) gY;have HT:=ZH hT;have Vn:((n:Int)==10)=false:=ZP;clear gY hT h9;go_wp2_with fail;go_ret3
    exact HT.out
theorem take_zero(a:Option Addr)(cap:Nat)(w:World):Calls prog 171 #[S_ a 0 cap] w (Za0 [] w):=by
 go_enter func171,ntmps171;go_wp2_with fail;go_loop [14] (λi=>i=I_ J_ 0) (λ_=>0)
 case atStart=>rfl
 case round =>
  subst hrel;go_wp2_with fail;go_ret3
  exact Zek (a:=0) (b:=0) (c:=2) (Zft (l:=[]) (λj hj=>by simp at hj))
theorem Zc8{a:Option Addr}{bs:List Nat}(h:Bytes w a n cap bs)(hs:∀x∈bs,x<256):
  Calls prog 171 #[S_ a n cap] w (Za0 (bs.take 10) w):=by
 have hl:=h.len;obtain⟨h1,h2,⟨rfl,rfl⟩|⟨b,off,rfl,h4,h5,h6⟩⟩:=h
 ·exact take_zero a cap w
 ·have wC:∀x∈bs.take 10,x<256:=λx hx=>hs x (List.mem_of_mem_take hx)
  rcases Nat.lt_or_ge 10 n with hb|hb
  ·exact Zs6 b off n cap (bs.take 10) w hb (by rw[ZV];omega) wC h1 h2 (λi hi=>by rw[Zih hi];exact h6 i ZO)
  ·have e:bs.take 10=bs:=ZU ZO;rw[e];exact ZpZ b off n cap bs w hb hl hs h1 h2 h6
theorem Zry(s:ByteArray):str (bs s)=s:=by
 have h:(str (bs s)).data=s.data:=by
  apply Array.toList_inj.1;simp only[str,strOfNums_data,bs,List.map_map];conv=>rhs;rw[←List.map_id s.data.toList]
  apply List.map_congr_left;intro x _;simp[Function.comp]
 cases hs:str (bs s)
 cases s
 rw[hs]at h;exact congrArg ByteArray.mk h
theorem Bytes.drop{w:World}{a:Option Addr}{n cap:Nat}{l:List Nat}(h:Bytes w a n cap l){k:Nat}(hk:k<n):∃b off,a=some ⟨b,off,none⟩/\Bytes w (some ⟨b,off+k,none⟩) (n-k) (cap-k) (l.drop k):=by
 obtain⟨b,off,rfl,hb,hc⟩:=h.pos ZO;have hl:=h.len;refine⟨b,off,rfl,by have:=h.1;omega,by have:=h.2.1;omega,.inr ⟨b,off+k,rfl,hb,by rw[List.length_drop];omega,λi hi=>?_⟩⟩;have:=hc (k+i) ZO;rw[Nat.add_assoc,this];simp[List.getD,List.getElem?_drop]
theorem Bytes.grown{a:Option Addr}{row:Option Nat}(h:Bytes w a n cap l)(hg:w.grownBy w' row)(hr:∀ad g,a=some ad->row=some g->ad.block≠g):Bytes w' a n cap l:=by
 refine⟨h.1,h.2.1,?_⟩;rcases h.2.2 with h'|⟨b,off,h1,h4,h5,h6⟩
 ·exact .inl h'
 ·refine .inr ⟨b,off,h1,ZR h4 hg.size,h5,λi hi=>?_⟩;rw[World.cell?_of_block (w:=w) (hg.block b h4 (λe=>hr _ _ h1 e.symm rfl))];exact h6 i hi
structure Rd(w:World)(pe pu pb:Nat)(a:Option Addr)(n cap:Nat)(l:List Nat)(pos:Nat):Prop where
 err:Blk w pe 28 #[I_ J_ 0]
 used:Blk w pu 3 #[I_ J_ pos]
 buf:Blk w pb 106 #[S_ a n cap]
 bytes:Bytes w a n cap l
 apart:∀ad,a=some ad->ad.block≠pu
 ne1:pe≠pu
 ne2:pb≠pu
 small:n<=1000000
theorem Rd.step{a:Option Addr}{pos Ji:Nat}(h:Rd w pe pu pb a n cap l pos)(hg:w.grownBy w' (some pu))(hu:Blk w' pu 3 #[I_ J_ Ji]):Rd w' pe pu pb a n cap l Ji :=
 ⟨h.err.grown hg (by simp[h.ne1]),hu,h.buf.grown hg (by simp[h.ne2]),h.bytes.grown hg (λad g h1 h2=>by injection h2 with h2;subst h2;exact h.apart ad h1),h.apart,h.ne1,h.ne2,h.small⟩
theorem Ze2(w:World)(p:Nat)(v:Value):w.grownBy (w.setCell ⟨p,0,none⟩ v) (some p):=⟨rfl,rfl,rfl,by simp[World.setCell],λk _ hk=>Below.heap_setCell _ _ _ _ (λe=>hk (by simp[e]))⟩
theorem Blk.one(h:Blk w g t #[v]):w.cell? ⟨g,0,none⟩=some v/\w.frozen? ⟨g,0,none⟩=false/\g<w.heap.size:=⟨h.cell 0,h.frozen 0,h.lt⟩
theorem Blk.bC(h:Blk w g t #[v])(u:Value):Blk (w.setCell ⟨g,0,none⟩ u) g t #[u]:=by
 have:=h.aj 0 u;simpa using this
theorem Ze6{a:Option Addr}{pos:Nat}(h:Rd w pe pu pb a n cap l pos)(lo hi:Int)(c:Nat)(hc:l[pos]? = some c)(h1:lo<=c)(h2:c<=hi)(hc256:c<256):
  Calls prog 229 #[I_ J_ lo,I_ J_ hi,P_ (some ⟨pe,0,none⟩),P_ (some ⟨pu,0,none⟩),P_ (some ⟨pb,0,none⟩)] w λe w'=>e=R_ (I_ J_ c)/\Rd w' pe pu pb a n cap l (pos+1)/\w.grownBy w' (some pu):=by
 have hlen:=h.bytes.len;have eN:pos<l.length:=by
  rcases Nat.lt_or_ge pos l.length with h|h
  ·exact h
  ·rw[List.getElem?_eq_none h]at hc;cases hc
 obtain⟨b,off,rfl,hb,iJ⟩:=h.bytes.pos ZO;have cB:=iJ pos ZO;have hg:l.getD pos 0=c:=by simp[List.getD,hc]
 rw[hg]at cB;obtain⟨e1,e2,e3⟩:=h.err.one;obtain⟨u1,u2,u3⟩:=h.used.one;obtain⟨b1,b2,b3⟩:=h.buf.one;have pR:(pos:Int)<(n:Int):=ZO;have lr:decide ((pos:Int)>=(n:Int))=false:=ZP;have fp:=h.bytes.1;have iK:=h.bytes.2.1;have cY:=h.small;unfold maxLen at iK;have eP:=h.step (Ze2 w pu (I_ J_ ((pos+1:Nat):Int))) (h.used.bC _);have jo:=Ze2 w pu (I_ J_ ((pos+1:Nat):Int));have iu:((pos+1:Nat):Int)=(pos:Int)+1:=ZO;rw[iu]at eP jo;obtain⟨gc,AO⟩:=ZH2 eP jo;clear eP jo iu iJ hc h hlen hg;go_enter func229,ntmps229;go_wp2_with (go_at_call 190;refine(Zhn _ _ _ _ ZO ZO).mono ?_;rintro e w' ⟨rfl,rfl⟩)
 go_ret;exact⟨rfl,gc.out,AO.out⟩
theorem Zrz{pos:Nat}{rest:List Nat}(h:l.drop pos=Zd n++rest)(hn:n<18446744073709551616):Zdv ((l.drop pos).take 10)=(n,(Zd n).length,0):=by
 rw[h];exact Zc9 n rest hn
theorem Zg9{a:Option Addr}{pos:Nat}(h:Rd w pe pu pb a n cap l pos)(hs:∀x∈l,x<256)(lo hi:Int)(v:Nat)(rest:List Nat)(hv:l.drop pos=Zd v++rest)(h0:0<=lo)(h1:lo<=v)(h2:v<=hi)(hv32:hi<=16777216):
  Calls prog 230 #[I_ J_ lo,I_ J_ hi,P_ (some ⟨pe,0,none⟩),P_ (some ⟨pb,0,none⟩),P_ (some ⟨pu,0,none⟩)] w λe w'=>e=R_ (I_ J_ v)/\Rd w' pe pu pb a n cap l (pos+(Zd v).length)/\w.grownBy w' (some pu):=by
 have hlen:=h.bytes.len;have gx:=Zac v;have sL:=ZdH (show v<=16777216 by omega);have eN:pos+(Zd v).length<=l.length:=by
  have:=congrArg List.length hv;rw[List.length_drop,ZI]at this;omega
 obtain⟨b,off,rfl,eT⟩:=h.bytes.drop (k:=pos) ZO;obtain⟨e1,e2,e3⟩:=h.err.one;obtain⟨u1,u2,u3⟩:=h.used.one;obtain⟨b1,b2,b3⟩:=h.buf.one;have fp:=h.bytes.1;have iK:=h.bytes.2.1;have cY:=h.small;unfold maxLen at iK;have ii:=Zc8 eT (λx hx=>hs x (List.mem_of_mem_drop hx));have gD:=Zrz hv ZO;have jo:=Ze2 w pu (I_ J_ ((pos+(Zd v).length:Nat):Int));have eP:=h.step jo (h.used.bC _);have iu:((pos+(Zd v).length:Nat):Int)=(pos:Int)+((Zd v).length:Int):=ZO;rw[iu]at eP jo;have oW:decide ((v:Int)<lo)=false:=ZP;have qg:decide ((v:Int)>hi)=false:=ZP;have vO:IntKind.u64.wrap lo=lo:=by rw[IntKind.wrap_u64];omega
 have hwh:IntKind.u64.wrap hi=hi:=by rw[IntKind.wrap_u64];omega
 obtain⟨gc,AO,jq,mj⟩:=ZH4 eP jo ii gD;have pR:pos<n:=ZO;clear eP jo iu h ii gD hv hs eT;generalize (Zd v).length=m at *;go_enter func230,ntmps230;go_wp2_with fail;refine jq.out.mono ?_;rintro e w1 hP;obtain⟨rfl,rfl⟩:e=R_ (.tuple #[.int .u64 v,I_ J_ m,I_ J_ ((0:Nat):Int)])/\w=w1:=by
  have gB:=hP;unfold Za0 at gB;rw[mj.out]at gB;exact gB
 have Sw:IntKind.i64.wrap (v:Int)=(v:Int):=IntWalk.i64_in _ ZO;clear hP;go_wp2
 go_ret;exact⟨rfl,gc.out,AO.out⟩
theorem Rd.below{w w':World}{pe pu pb:Nat}{a:Option Addr}{n cap:Nat}{l:List Nat}{pos:Nat}(h:Rd w pe pu pb a n cap l pos)(hb:L_ w w'):Rd w' pe pu pb a n cap l pos :=
 ⟨h.err.ob hb,h.used.ob hb,h.buf.ob hb,h.bytes.kept hb (ZL _),h.apart,h.ne1,h.ne2,h.small⟩
theorem ZiQ{w1 w2:World}{row:Option Nat}(h:w.grownBy w1 row)(hb:L_ w1 w2):w.grownBy w2 row :=
 ⟨hb.os.trans h.os,hb.tape.trans h.tape,hb.output.trans h.output,ZT h.size hb.size,λk hk hr=>(hb.block k (ZR hk h.size)).trans (h.block k hk hr)⟩
theorem ZrI{a:Option Addr}{pos:Nat}(h:Rd w pe pu pb a n cap l pos)(s:ByteArray)(rest:List Nat)(hv:l.drop pos=bs s++rest)(h1:1<=s.size)
  (hf:∀W,Calls prog 147 #[T_ s] W (Zx (I_ J_ 0) W)) :
  Calls prog 231 #[I_ J_ s.size,.func (.func 147) #[] #[],P_ (some ⟨pe,0,none⟩),P_ (some ⟨pb,0,none⟩),P_ (some ⟨pu,0,none⟩)] w λe w'=>e=R_ (T_ s)/\Rd w' pe pu pb a n cap l (pos+s.size)/\w.grownBy w' (some pu):=by
 have hlen:=h.bytes.len;have eN:pos+s.size<=l.length:=by
  have:=congrArg List.length hv;rw[List.length_drop,ZI,Zdx]at this;omega
 obtain⟨b,off,rfl,eT⟩:=h.bytes.drop (k:=pos) ZO;have mD:=eT.cut s.size ZO;have et:(l.drop pos).take s.size=bs s:=by rw[hv,←Zdx s];exact List.take_left
 rw[et]at mD;have CV:=Ziu (P:=prog) underlying106 underlying5 mD 9 underlying9;rw[Zry]at CV;obtain⟨e1,e2,e3⟩:=h.err.one;obtain⟨u1,u2,u3⟩:=h.used.one;obtain⟨b1,b2,b3⟩:=h.buf.one;have fp:=h.bytes.1;have iK:=h.bytes.2.1;have cY:=h.small;unfold maxLen at iK;have jo:=Ze2 w pu (I_ J_ ((pos+s.size:Nat):Int));have eP:=h.step jo (h.used.bC _);have iu:((pos+s.size:Nat):Int)=(pos:Int)+(s.size:Int):=ZO;rw[iu]at eP jo;have cI:decide ((n:Int)-(pos:Int)<(s.size:Int))=false:=ZP;obtain⟨gc,AO,HF⟩:=ZH3 eP jo hf;have pR:pos<n:=ZO;have gP:pos+s.size<=n:=ZO;clear eP jo iu h hv eT mD et hf;go_enter func231,ntmps231;go_wp2_with fail;refine(HF.out _).mono ?_;rintro e w1 ⟨rfl,cz⟩;obtain⟨Bf,AP⟩:=ZH2 (gc.out.below cz) (ZiQ AO.out cz);go_wp2
 go_ret;exact⟨rfl,Bf.out,AP.out⟩
theorem Zn7{a:Option Addr}{pos:Nat}(h:Rd w pe pu pb a n cap l pos)(s:ByteArray)(rest:List Nat)(hv:l.drop pos=bs s++rest)(h1:1<=s.size)
  (hf:∀W,Calls prog 149 #[T_ s] W (Zx (I_ J_ 0) W)) :
  Calls prog 231 #[I_ J_ s.size,.func (.func 149) #[] #[],P_ (some ⟨pe,0,none⟩),P_ (some ⟨pb,0,none⟩),P_ (some ⟨pu,0,none⟩)] w λe w'=>e=R_ (T_ s)/\Rd w' pe pu pb a n cap l (pos+s.size)/\w.grownBy w' (some pu):=by
 have hlen:=h.bytes.len;have eN:pos+s.size<=l.length:=by
  have:=congrArg List.length hv;rw[List.length_drop,ZI,Zdx]at this;omega
 obtain⟨b,off,rfl,eT⟩:=h.bytes.drop (k:=pos) ZO;have mD:=eT.cut s.size ZO;have et:(l.drop pos).take s.size=bs s:=by rw[hv,←Zdx s];exact List.take_left
 rw[et]at mD;have CV:=Ziu (P:=prog) underlying106 underlying5 mD 9 underlying9;rw[Zry]at CV;obtain⟨e1,e2,e3⟩:=h.err.one;obtain⟨u1,u2,u3⟩:=h.used.one;obtain⟨b1,b2,b3⟩:=h.buf.one;have fp:=h.bytes.1;have iK:=h.bytes.2.1;have cY:=h.small;unfold maxLen at iK;have jo:=Ze2 w pu (I_ J_ ((pos+s.size:Nat):Int));have eP:=h.step jo (h.used.bC _);have iu:((pos+s.size:Nat):Int)=(pos:Int)+(s.size:Int):=ZO;rw[iu]at eP jo;have cI:decide ((n:Int)-(pos:Int)<(s.size:Int))=false:=ZP;obtain⟨gc,AO,HF⟩:=ZH3 eP jo hf;have pR:pos<n:=ZO;have gP:pos+s.size<=n:=ZO;clear eP jo iu h hv eT mD et hf;go_enter func231,ntmps231;go_wp2_with fail;refine(HF.out _).mono ?_;rintro e w1 ⟨rfl,cz⟩;obtain⟨Bf,AP⟩:=ZH2 (gc.out.below cz) (ZiQ AO.out cz);go_wp2
 go_ret;exact⟨rfl,Bf.out,AP.out⟩
end Go.Proofs.YtjkfognelhiepaaGreat
