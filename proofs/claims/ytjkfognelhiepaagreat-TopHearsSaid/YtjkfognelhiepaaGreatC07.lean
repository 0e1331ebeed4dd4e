import Derived.Test.YtjkfognelhiepaaGreatC06
namespace Go.Proofs.YtjkfognelhiepaaGreat
open Go.RowKit _root_.Go.Proofs.Tryz
set_option maxRecDepth 100000
set_option maxHeartbeats 8000000
def Zrn(l:List Nat)(w:World)(r:Ending)(w':World):Prop:=∃ v,r = .returned v/\w'.ownsRow w.heap.size 5 1 v l.length (cells l)/\Below w.heap.size w w'
theorem Zeo{a:Option Addr}{n cap:Nat}{l:List Nat}{w:World}(h:Bytes w a n cap l)(hn:n<=1000000000):Calls prog 105 #[.slice a n cap] w (Zrn l w):=by
 have hlen:=h.len;have qn:=λ(w:World) (a:Option Addr) (n c n' c':Nat)=>Lib.run_eql_slice_nil (P:=prog) w 106 5 a n c n' c' underlying106
 obtain⟨i0,hi,cM,cG,cK⟩:=info_parts ZaA;rcases a with _ | ad
 ·have h0:n=0:=by
   rcases Nat.eq_zero_or_pos n with h0 | h0
   ·exact h0
   ·obtain⟨b,off,h,_⟩:=h.pos h0
    cases h
  subst h0;have gP:l=[]:=List.eq_nil_of_length_eq_zero hlen;subst gP;clear h hlen;go_enter func105,ntmps105;go_wp2
  go_ret;exact⟨_,rfl,⟨rfl,.inl ⟨rfl,rfl⟩⟩,ZW _ _⟩
 ·have iH:=ZH (h.reads.alloc (ZL _) (.cells #[] 5));skip;have HO:=ZH (Zi0 w w.heap.size (ZL _));subst hlen;clear h;go_enter func105,ntmps105;go_wp2_with (at_builtin;refine Zc _ rfl (.tmp 5) (.tmp 6) _ rfl w.heap.size 5 i0 _ 1 1 underlying106 hi cM cG cK rfl ZO (.slice (some ⟨w.heap.size,0,none⟩) 0 0) 0 (cells []) rfl HO.out w.heap.size (some ad) l.length cap (cells l) rfl iH.out (Z2 _) ZF ZO ZM ?_;intro v4 w4 cd dn _)
  go_ret;refine⟨v4,rfl,?_,((ZW w.heap.size w).alloc (ZL _) _).grown dn ZM (λ g hg=>by injection hg with hg;exact Nat.le_of_eq hg)⟩;simpa [cells] using cd
structure RowB(own:Own)(t:Nat)(w:World)(v:Value)(l:List Nat):Prop where
 row:w.ownsRow 0 5 1 v l.length (cells l)
 own:∀ g,v.ownBlock=some g->own g=t
theorem RowB.nil(own:Own)(t:Nat)(w:World):RowB own t w (.slice none 0 0) []:=⟨⟨rfl,.inl ⟨rfl,rfl⟩⟩,λ g h=>by cases h⟩
theorem RowB.upd{T:Nat->Prop}{own own':Own}{w w':World}{t:Nat}{v:Value}{l:List Nat}(h:RowB own t w v l)(hu:Upd T own own' w w')(ht:¬ T t):RowB own' t w' v l :=
 ⟨Zh h.row (λ g h1 h2=>hu.same g h2 (by rw[h.own g h1];exact ht)),λ g hg=>by rw[hu.old g (Zb h.row hg).2];exact h.own g hg⟩
structure Dk where
 bytes:List Nat
 down:Bool
 cut:Bool
 keep:Int
def Dk.new:Dk:=⟨[],false,false,0⟩
def Dk.aF(d:Dk):Dk:=⟨d.bytes,true,false,d.keep⟩
def Dk.start(d:Dk):Dk:=⟨d.bytes,false,false,d.keep⟩
def Dk.aQ(d:Dk)(keep:Int):Dk:=⟨d.bytes,d.down,true,keep⟩
def Dk.trim(d:Dk)(n:Nat):Dk:=⟨d.bytes.take n,d.down,d.cut,d.keep⟩
def Dk.write(d:Dk)(b:List Nat):Dk × Nat :=
 if d.down then(d,18) else if d.cut then(⟨d.bytes++b.take d.keep.toNat,true,false,d.keep⟩,18) else(⟨d.bytes++b,d.down,d.cut,d.keep⟩,0)
abbrev diskArr(v:Value)(down cut:Bool)(keep:Int):Array Value:=#[v,.bool down,.bool cut,.int .i64 keep]
structure DiskAt(own:Own)(t:Nat)(w:World)(p:Nat)(d:Dk):Prop where
 mine:own p=t
 ex:∃ v,Blk w p 233 (diskArr v d.down d.cut d.keep)/\RowB own t w v d.bytes
theorem DiskAt.upd{T:Nat->Prop}{own own':Own}{w w':World}{t p:Nat}{d:Dk}(h:DiskAt own t w p d)(hu:Upd T own own' w w')(ht:¬ T t):DiskAt own' t w' p d:=by
 obtain⟨h1,v,h2,h3⟩:=h;exact⟨by rw[hu.old p h2.lt];exact h1,v,h2.upd hu (by rw[h1];exact ht),h3.upd hu ht⟩
theorem Zk9(w:World):Calls prog 125 #[] w λ r w'=>r = .returned (.pointer (some ⟨w.heap.size,0,none⟩))/\Blk w' w.heap.size 233 (diskArr (.slice none 0 0) false false 0)/\Below w.heap.size w w':=by
 go_enter func125,ntmps125;go_wp2
 go_ret;exact⟨rfl,ZBn _ _ _,(ZW _ _).alloc (ZL _) _⟩
theorem ZcV{own:Own}{t p:Nat}{w:World}{v:Value}{l:List Nat}{cs:Array Value}(hb:Blk w p 233 cs)(hr:RowB own t w v l)(i:Nat)(u:Value):RowB own t (w.setCell ⟨p,i,none⟩ u) v l :=
 ⟨Zh hr.row (λ g hg _=>Below.heap_setCell _ _ _ _ (λ he=>Zo hr.row hb ZJ (by rw[hg,he]))),hr.own⟩
theorem Zf3{own:Own}{t p:Nat}{w:World}{d:Dk}(h:DiskAt own t w p d)(hf:Fresh own w):Calls prog 80 #[.pointer (some ⟨p,0,none⟩)] w λ r w'=>r = .returned (.tuple #[])/\DiskAt own t w' p d.aF/\Upd (· = t) own own w w':=by
 obtain⟨hm,v,hb,hr⟩:=h;obtain⟨HB,HR,HF,HM⟩:=ZH4 hb hr hf hm;obtain⟨c0,c1,c2,c3⟩:=hb.four;have ce:=hb.lt;have f1:=hb.frozen 1;have f2:=hb.frozen 2;clear hb hr hf hm;go_enter func80,ntmps80;go_wp2_with fail;go_end0
 refine⟨rfl,⟨HM.out,v,(HB.out.ai 1 (.bool true)).ai 2 (.bool false),ZcV (HB.out.ai 1 (.bool true)) (ZcV HB.out HR.out 1 _) 2 _⟩,((Upd.refl _ own w HF.out).setCell (p:=⟨p,1,none⟩) (λ _=>HM.out) _).setCell (p:=⟨p,2,none⟩) (λ _=>HM.out) _⟩
theorem ZiE{own:Own}{t p:Nat}{w:World}{d:Dk}(h:DiskAt own t w p d)(hf:Fresh own w):Calls prog 81 #[.pointer (some ⟨p,0,none⟩)] w λ r w'=>r = .returned (.tuple #[])/\DiskAt own t w' p d.start/\Upd (· = t) own own w w':=by
 obtain⟨hm,v,hb,hr⟩:=h;obtain⟨HB,HR,HF,HM⟩:=ZH4 hb hr hf hm;obtain⟨c0,c1,c2,c3⟩:=hb.four;have ce:=hb.lt;have f1:=hb.frozen 1;have f2:=hb.frozen 2;clear hb hr hf hm;go_enter func81,ntmps81;go_wp2_with fail;go_end0
 refine⟨rfl,⟨HM.out,v,(HB.out.ai 1 (.bool false)).ai 2 (.bool false),ZcV (HB.out.ai 1 (.bool false)) (ZcV HB.out HR.out 1 _) 2 _⟩,((Upd.refl _ own w HF.out).setCell (p:=⟨p,1,none⟩) (λ _=>HM.out) _).setCell (p:=⟨p,2,none⟩) (λ _=>HM.out) _⟩
theorem Zk8{own:Own}{t p:Nat}{w:World}{d:Dk}(keep:Int)(h:DiskAt own t w p d)(hf:Fresh own w):Calls prog 276 #[.pointer (some ⟨p,0,none⟩),.int .i64 keep] w λ r w'=>r = .returned (.tuple #[])/\DiskAt own t w' p (d.aQ keep)/\Upd (· = t) own own w w':=by
 obtain⟨hm,v,hb,hr⟩:=h;obtain⟨HB,HR,HF,HM⟩:=ZH4 hb hr hf hm;obtain⟨c0,c1,c2,c3⟩:=hb.four;have ce:=hb.lt;have f2:=hb.frozen 2;have f3:=hb.frozen 3;clear hb hr hf hm;go_enter func276,ntmps276;go_wp2_with fail;go_end0
 refine⟨rfl,⟨HM.out,v,(HB.out.ai 2 (.bool true)).ai 3 (.int .i64 keep),ZcV (HB.out.ai 2 (.bool true)) (ZcV HB.out HR.out 2 _) 3 _⟩,((Upd.refl _ own w HF.out).setCell (p:=⟨p,2,none⟩) (λ _=>HM.out) _).setCell (p:=⟨p,3,none⟩) (λ _=>HM.out) _⟩
theorem ZiD{own:Own}{t p:Nat}{w:World}{d:Dk}(h:DiskAt own t w p d)(hn:d.bytes.length<=1000000000):Calls prog 83 #[.pointer (some ⟨p,0,none⟩)] w (Zrn d.bytes w):=by
 obtain⟨hm,v,hb,hr⟩:=h;obtain⟨a,cap,rfl,hs⟩:=Bytes.ab hr.row;have HS:=ZH hs;obtain⟨c0,c1,c2,c3⟩:=hb.four;have ce:=hb.lt;clear hb hr hm hs;go_enter func83,ntmps83;go_wp2_with fail;refine(Zeo HS.out hn).mono ?_;rintro r w1 ⟨v1,rfl,eZ,bS⟩;obtain⟨HO,HB⟩:=ZH2 eZ bS;clear eZ bS;go_wp2
 go_ret;exact⟨v1,rfl,HO.out,HB.out⟩
theorem ZhI{own:Own}{t p:Nat}{w w4:World}{v v4:Value}{l news:List Nat}{down cut:Bool}{keep:Int}(hm:own p=t)(hb:Blk w p 233 (diskArr v down cut keep))(hr:RowB own t w v l)(hf:Fresh own w)(cT:w4.ownsRow 0 5 1 v4 (l++news).length (cells (l++news)))
  (hg:w.grownBy w4 v.ownBlock) (iL:v4.ownBlock=v.ownBlock∨v4.ownBlock=some w.heap.size) :
  Blk w4 p 233 (diskArr v down cut keep)/\DiskAt (own.put v4 t) t (w4.setCell ⟨p,0,none⟩ v4) p ⟨l++news,down,cut,keep⟩/\Upd (· = t) own (own.put v4 t) w (w4.setCell ⟨p,0,none⟩ v4):=by
 have cz:=hb.grown hg (Ne.symm (Zo hr.row hb ZJ));obtain⟨hu,iC⟩:=(Upd.refl (· = t) own w hf).grow (t:=t) rfl hr.own (λ g hg=>(Zb cT hg).2) hg iL;refine⟨cz,⟨by rw[iC p hb.lt];exact hm,v4,cz.ai 0 v4,Zh cT (λ g hg _=>Below.heap_setCell _ _ _ _ (λ he=>Zo cT cz ZJ (by rw[hg,he]))),λ g hg=>?_⟩,hu.setCell (p:=⟨p,0,none⟩) (λ _=>hm) _⟩;unfold Own.put;rw[if_pos hg]
theorem ZiF{own:Own}{t p:Nat}{w:World}{d:Dk}{a:Option Addr}{n cap:Nat}{b:List Nat}(h:DiskAt own t w p d)(hf:Fresh own w)(hs:Bytes w a n cap b)(hn:n<=1000000000)(hd:d.bytes.length<=1000000000):
  Calls prog 116 #[.pointer (some ⟨p,0,none⟩),.slice a n cap] w λ r w'=>r = .returned (.int .i64 (d.write b).2)/\∃ own',DiskAt own' t w' p (d.write b).1/\Upd (· = t) own own' w w':=by
 obtain⟨bytes,down,cut,keep⟩:=d;obtain⟨hm,v,hb,hr⟩:=h;simp only at hb hr hd;obtain⟨i0,hi,cM,cG,cK⟩:=info_parts ZaA;have gy:=hs.len;obtain⟨a0,lg,rfl,_⟩:=Bytes.ab hr.row;obtain⟨c0,c1,c2,c3⟩:=hb.four;have f0:=hb.frozen 0;have ce:=hb.lt;obtain⟨HB,HR,HF,HM,HS⟩:=ZH5 hb hr hf hm hs;clear hb hr hf hm hs;rcases down with _ | _
 ·rcases cut with _ | _
  ·go_enter func116,ntmps116
   go_wp2_with (first
    |(at_builtin
      refine Zc _ rfl (.tmp 38) (.tmp 39) _ rfl 0 5 i0 _ 1 1 underlying106 hi cM cG cK rfl ZO (.slice a0 bytes.length lg) bytes.length (cells bytes) rfl HR.out.row w.heap.size a n cap (cells b) rfl HS.out.reads (Z2 _) ZF ZO ZO ?_;intro v4 w4 cd dn jc;have oG:(bytes++b).length=bytes.length+n:=by rw[ZI,gy]
      obtain⟨a4,iB,rfl,_⟩:=Bytes.ab (bs:=bytes++b) (by rw[Zq];exact cd);obtain⟨cz,l7,dS⟩:=ZhI (news:=b) HM.out HB.out HR.out HF.out (by rw[oG,Zq];exact cd) dn jc;have R0:=cz.frozen 0;obtain⟨d0,d1,d2,d3⟩:=cz.four;have pS:=cz.lt;obtain⟨nX,fF⟩:=ZH2 l7 dS
      clear cd dn jc cz l7 dS oG))
   go_ret;exact⟨rfl,_,nX.out,fF.out⟩
  ·have fZ:n<=cap:=HS.out.1;obtain⟨k,hk⟩:∃ k,k=min keep.toNat n:=⟨_,rfl⟩;have il:k<=n:=ZO;have js:b.take k=b.take keep.toNat:=by
    rw[hk];rcases Nat.le_total keep.toNat n with h | h
    ·rw[Nat.min_eq_left h]
    ·rw[Nat.min_eq_right h,ZU ZO,ZU ZO]
   have fB:=HS.out.cut k il;have eb:(b.take k).length=k:=by rw[ZV];omega
   have wN:∀ w ts t,(Builtin.min_ ts t #[.int .i64 (if (0:Int)>keep then(0:Int) else keep),.int .i64 ((n:Nat):Int)]).run prog w = .ok (.int .i64 (k:Int)) w:=by
    intro w ts t;rw[run_min_int2];congr 2;split <;> split <;> omega
   have Fk:∀ w ts t,(Builtin.min_ ts t #[.int .i64 (max keep 0),.int .i64 ((n:Nat):Int)]).run prog w = .ok (.int .i64 (k:Int)) w:=by
    intro w ts t;rw[run_min_int2];congr 2;split <;> omega
   have Fm:∀ w ts t,(Builtin.min_ ts t #[.int .i64 (max 0 keep),.int .i64 ((n:Nat):Int)]).run prog w = .ok (.int .i64 (k:Int)) w:=by
    intro w ts t;rw[run_min_int2];congr 2;split <;> omega
   have cA:(0:Int)<=(k:Int):=ZO;have wD:(k:Int)<=(cap:Int):=ZO;obtain⟨HC,HK⟩:=ZH2 fB js;clear fB hk js;go_enter func116,ntmps116
   go_wp2_with (first
    |(at_builtin
      refine Zc _ rfl (.tmp 27) (.tmp 28) _ rfl 0 5 i0 _ 1 1 underlying106 hi cM cG cK rfl ZO (.slice a0 bytes.length lg) bytes.length (cells bytes) rfl HR.out.row w.heap.size a k cap (cells (b.take k)) rfl HC.out.reads (Z2 _) ZF ZO ZO ?_;intro v4 w4 cd dn jc;have oG:(bytes++(b.take k)).length=bytes.length+k:=by rw[ZI,eb]
      obtain⟨a4,iB,rfl,_⟩:=Bytes.ab (bs:=bytes++(b.take k)) (by rw[Zq];exact cd);obtain⟨cz,l7,dS⟩:=ZhI (news:=(b.take k)) HM.out HB.out HR.out HF.out (by rw[oG,Zq];exact cd) dn jc;have R0:=cz.frozen 0;obtain⟨d0,d1,d2,d3⟩:=cz.four;have pS:=cz.lt;obtain⟨nX,fF⟩:=ZH2 l7 dS
      clear cd dn jc cz l7 dS oG))
   all_goals
    refine(Zf3 nX.out fF.out.fresh).mono ?_;rintro r w5 ⟨rfl,jy,gS⟩;obtain⟨qQ,jn⟩:=ZH2 jy gS;clear jy gS;go_wp2
    go_ret;rw[HK.out] at qQ;exact⟨rfl,_,qQ.out,fF.out.trans jn.out⟩
 ·go_enter func116,ntmps116;go_wp2
  go_ret;exact⟨rfl,own,⟨HM.out,_,HB.out,HR.out⟩,Upd.refl _ _ _ HF.out⟩
theorem Zkd:prog.eqGuardType prog.depth 274=false:=ZK
theorem Zsi:prog.cellsOf 5=1:=ZK
theorem ZsE:prog.plainKey 5=true:=ZK
def four(e0 e1 e2 e3:Nat):Array Value:=#[.int .u8 (e0:Int),.int .u8 (e1:Int),.int .u8 (e2:Int),.int .u8 (e3:Int)]
theorem Zp6(a b:Nat):((a:Int)==(b:Int))=decide (a=b):=by
 rw[Bool.eq_iff_iff];simp only[beq_iff_eq,decide_eq_true_eq];omega
theorem Zpf(e0 e1 e2 e3 d0 d1 d2 d3:Nat)(w:World):
  (binOp .neq 274 (.agg (four e0 e1 e2 e3)) (.agg (four d0 d1 d2 d3))).run prog w = .ok (.bool (!decide (e0=d0/\e1=d1/\e2=d2/\e3=d3))) w:=by
 obtain⟨i0,hi,cM,cG,cK⟩:=info_parts ZaA;rw[run_neq_struct,show(10000:Nat)=9999+1 from rfl,run_equalIn_array w 9999 _ _ underlying274 hi];have hp:=λ(xs:Array Value) (off:Nat) (v:Value) (hx:xs[off]? = some v) (w:World)=>run_part_plain (P:=prog) (w:=w) ZsE hx
 have hq:∀ (a b:Nat) (w:World),(Op.equalIn 9999 5 (.int .u8 (a:Int)) (.int .u8 (b:Int))).run prog w = .ok (decide (a=b)) w:=λ a b w=>by
  rw[←Zp6];exact run_equalIn_int (P:=prog) w 9998 5 .u8 .u8 a b underlying5
 have a0:=hp (four e0 e1 e2 e3) (0*1) (.int .u8 (e0:Int)) rfl;have a1:=hp (four e0 e1 e2 e3) (1*1) (.int .u8 (e1:Int)) rfl;have a2:=hp (four e0 e1 e2 e3) (2*1) (.int .u8 (e2:Int)) rfl;have a3:=hp (four e0 e1 e2 e3) (3*1) (.int .u8 (e3:Int)) rfl;have b0:=hp (four d0 d1 d2 d3) (0*1) (.int .u8 (d0:Int)) rfl;have b1:=hp (four d0 d1 d2 d3) (1*1) (.int .u8 (d1:Int)) rfl;have b2:=hp (four d0 d1 d2 d3) (2*1) (.int .u8 (d2:Int)) rfl;have b3:=hp (four d0 d1 d2 d3) (3*1) (.int .u8 (d3:Int)) rfl;simp only[show List.range 4=[0,1,2,3] from rfl,Op.eqItems,Zsi,Sem.run_bind,a0,b0,hq,Result.andThen_ok];rcases dW:decide (e0=d0) with _ | _
 ·simp at dW;simp[dW]
 ·simp only[Bool.not_true,Bool.false_eq_true,if_false,Sem.run_bind,a1,b1,hq,Result.andThen_ok];rcases fY:decide (e1=d1) with _ | _
  ·simp at fY;simp[fY]
  ·simp only[Bool.not_true,Bool.false_eq_true,if_false,Sem.run_bind,a2,b2,hq,Result.andThen_ok];rcases oY:decide (e2=d2) with _ | _
   ·simp at oY;simp[oY]
   ·simp only[Bool.not_true,Bool.false_eq_true,if_false,Sem.run_bind,a3,b3,hq,Result.andThen_ok];rcases uB:decide (e3=d3) with _ | _
    ·simp at uB;simp[uB]
    ·simp only[decide_eq_true_eq] at dW fY oY uB;simp only[dW,fY,oY,uB,Bool.not_true,Bool.false_eq_true,if_false,Sem.run_pure,Result.andThen_ok,and_self,decide_true]
theorem Zls(e0 e1 e2 e3 d0 d1 d2 d3:Nat)(w:World):
  (binOp .neq 274 (.agg #[.int .u8 (e0:Int),.int .u8 (e1:Int),.int .u8 (e2:Int),.int .u8 (e3:Int)]) (.agg #[.int .u8 (d0:Int),.int .u8 (d1:Int),.int .u8 (d2:Int),.int .u8 (d3:Int)])).run prog w
   = .ok (.bool (!decide (e0=d0/\e1=d1/\e2=d2/\e3=d3))) w:=Zpf e0 e1 e2 e3 d0 d1 d2 d3 w
def Zdm(bs:List Nat):Prop:=4<=bs.length/\bs.drop (bs.length-4)=ZbJ (ZdK (bs.take (bs.length-4)))
def ZkR(bs:List Nat)(w:World)(e:Ending)(w':World):Prop :=
 (Zdm bs/\∃ v,e = .returned (.tuple #[v,.bool true])/\w'.ownsRow w.heap.size 5 1 v (bs.length-4) (cells (bs.take (bs.length-4)))/\Below w.heap.size w w') ∨
 (¬ Zdm bs/\e = .returned (.tuple #[.slice none 0 0,.bool false])/\Below w.heap.size w w')
theorem ZmA{P:Program}{t e:TypeId}{k len cap:Nat}{a:Option Addr}(ht:P.underlying t=some (.array k e))(h:k<=len)(w:World):
  (Instr.arrayAt t (.slice a len cap)).run P w = .ok (.pointer a) w:=by
 simp[Instr.arrayAt,run_underlying ht];omega
theorem ZoV{bs:List Nat}{m:Nat}(h:bs.length=m+4):bs.drop m=[bs.getD m 0,bs.getD (m+1) 0,bs.getD (m+2) 0,bs.getD (m+3) 0]:=by
 have g:∀ i,i<bs.length->bs.drop i=bs.getD i 0::bs.drop (i+1):=λ i hi=>by
  rw[List.drop_eq_getElem_cons hi];simp only[List.getD,ZX hi,Option.getD_some]
 rw[g m ZO,g (m+1) ZO,g (m+2) ZO,g (m+3) ZO,List.drop_eq_nil_of_le ZO]
theorem ZnZ(a:Option Addr)(n cap:Nat)(w:World)(h4:n<4):
  Calls prog 136 #[.slice a n cap] w λ e w'=>e = .returned (.tuple #[.slice none 0 0,.bool false])/\Below w.heap.size w w':=by
 have wP:decide ((n:Int)-4<0)=true:=ZP;have hneg2:(n:Int)-4<0:=ZO;go_enter func136,ntmps136;go_wp2_with fail;refine ZSh (λ w'=>Kept w.heap.size w w') [(0,0),(1,0),(2,0),(3,0),(4,0),(5,0),(6,0),(7,0),(8,0),(9,0),(10,0),(11,1),(12,0),(13,0)] (Kept.drew ⟨ZW _ _,ZL _⟩) λ bR=>?_
 repeat((first | refine ZSa ?_ | refine ZSc ?_);simp only[Act.put,ZA,ZB,ZC])
 refine ZSf ?_;go_wp2_with fail;go_ret2
 exact⟨rfl,(ZW _ _).drew⟩
theorem Zpo(b off m n cap:Nat)(bs:List Nat)(w:World)(hn:n=m+4)(fZ:n<=cap)(fk:b<w.heap.size)
  (h:Bytes w (some ⟨b,off,none⟩) n cap bs) (hs:∀ x∈bs,x<256) (D0:n<=200004) :
  Calls prog 136 #[.slice (some ⟨b,off,none⟩) n cap] w (ZkR bs w):=by
 obtain⟨i0,hi,cM,cG,cK⟩:=info_parts ZaA;have yz:=h.len;have fB:=h.cut m ZO;have cI:∀ x∈bs.take m,x<256:=λ x hx=>hs x (List.mem_of_mem_take hx)
 obtain⟨b',o',j9,-,ib⟩:=h.pos ZO;injection j9 with j9;injection j9 with bS bW;subst bS bW;have k0:=ib m ZO;have k1:=ib (m+1) ZO;have k2:=ib (m+2) ZO;have k3:=ib (m+3) ZO;simp only[←Nat.add_assoc] at k1 k2 k3;have kT:=ZoV (bs:=bs) (m:=m) ZO;generalize bs.getD m 0=e0 at k0 kT;generalize bs.getD (m+1) 0=e1 at k1 kT;generalize bs.getD (m+2) 0=e2 at k2 kT;generalize bs.getD (m+3) 0=e3 at k3 kT;obtain⟨d0,d1,d2,d3,hd⟩:∃ d0 d1 d2 d3,ZbJ (ZdK (bs.take m))=[d0,d1,d2,d3]:=⟨_,_,_,_,rfl⟩;have kP:Zdm bs↔(e0=d0/\e1=d1/\e2=d2/\e3=d3):=by
  unfold Zdm;rw[yz,show n-4=m by omega,kT,hd];simp;omega
 have Ra:Hid (bs.length-4=m):=ZH (ZO);have hnm:(n:Int)-4=(m:Int):=ZO;have wP:decide ((m:Int)<0)=false:=ZM;have hptr:=λ w'=>ZmA (P:=prog) (len:=4) (cap:=cap-m) (a:=some ⟨b,off+m,none⟩) underlying274 (ZL _) w'
 have qC:n-m=4:=ZO;have SQ:m<=n:=ZO;have hmc:m<=cap:=ZO;have hmc2:¬ cap=m:=ZO;have hmc3:¬ n<m:=ZO;obtain⟨HN,HS,xu,gx,HD,xI⟩:=ZH6 hn hs fB cI hd kP;clear hn hs fB cI hd kP kT ib yz h;go_enter func136,ntmps136;go_wp2_with fail;refine ZSh (λ w'=>Kept w.heap.size w w') [(0,0),(1,0),(2,0),(3,0),(4,0),(5,0),(6,0),(7,0),(8,0),(9,0),(10,0),(11,1),(12,0),(13,0)] (Kept.drew ⟨ZW _ _,ZL _⟩) λ bR=>?_
 repeat((first | refine ZSa ?_ | refine ZSc ?_);simp only[Act.put,ZA,ZB,ZC])
 refine ZSd λ K hK=>?_
 go_simp;refine(ZlV (xu.out.kept bR.below (ZL _)) gx.out).mono ?_;rintro e w4 ⟨rfl,hb⟩;have lH:=bR.step hb;refine hK.out (λ w'=>Kept w4.heap.size w4 w') _ _ (λ _ h=>lH.trans h lH.le) ⟨ZW _ _,ZL _⟩ (λ bT=>?_);clear bR hK K;have bR:=bT;clear bT;try simp only[Act.put,ZA,ZB,ZC]
 rw[HD.out];have eX:(cells [d0,d1,d2,d3]).toArray=#[.int .u8 (d0:Int),.int .u8 (d1:Int),.int .u8 (d2:Int),.int .u8 (d3:Int)]:=rfl;rw[eX];clear eX;by_cases eK:e0=d0/\e1=d1/\e2=d2/\e3=d3
 ·have ML:=xI.out.2 eK;obtain⟨rfl,rfl,rfl,rfl⟩:=eK;have qv:=Zkd;have dz:=λ w'=>(Zls e0 e1 e2 e3 e0 e1 e2 e3 w').trans (show _=Result.ok (Value.bool false) w' by simp)
  repeat((first | refine ZSa ?_ | refine ZSc ?_);simp only[Act.put,ZA,ZB,ZC])
  refine ZSf ?_;obtain⟨vj,iH⟩:=ZH2 (Zi0 w4 w.heap.size lH.le) (((xu.out.kept lH.below (ZL _)).reads).alloc (ZL _) (.cells #[] 5));clear bR qv dz;have oF:=lH.le;go_wp2_with (at_builtin;refine Zc _ rfl (.tmp 22) (.tmp 25) _ rfl w.heap.size 5 i0 _ 1 1 underlying106 hi cM cG cK rfl ZO (.slice (some ⟨w4.heap.size,0,none⟩) 0 0) 0 (cells []) rfl vj.out w4.heap.size (some ⟨b,off,none⟩) m cap (cells (bs.take m)) rfl iH.out (Z2 _) ZF ZO (ZT oF ZM) ?_;intro v5 w5 lP kg wh)
  have Ly:(w4.alloc (.cells #[] 5)).grownBy w5 (some w4.heap.size):=kg;have dw:Below w.heap.size w w5:=(lH.alloc (.cells #[] 5)).below.grown Ly (ZT oF ZM) (λ g hg=>by injection hg with hg;omega);go_ret2
  refine .inl ⟨ML,_,rfl,?_,dw⟩;rw[Ra.out];have eF:cells []++cells (bs.take m)=cells (bs.take m):=rfl;rw[eF,Nat.zero_add] at lP;exact lP
 ·have gr:¬ Zdm bs:=λ h=>eK (xI.out.1 h)
  have qv:=Zkd;have dz:=λ w'=>(Zls e0 e1 e2 e3 d0 d1 d2 d3 w').trans (show _=Result.ok (Value.bool true) w' by simp[eK])
  repeat((first | refine ZSa ?_ | refine ZSc ?_);simp only[Act.put,ZA,ZB,ZC])
  refine ZSf ?_;go_wp2_with fail;go_ret2
  exact .inr ⟨gr,rfl,lH.below⟩
theorem Zii{a:Option Addr}{n cap:Nat}{bs:List Nat}{w:World}(h:Bytes w a n cap bs)(hs:∀ x∈bs,x<256)(D0:n<=200004):
  Calls prog 136 #[.slice a n cap] w (ZkR bs w):=by
 have hl:=h.len;rcases Nat.lt_or_ge n 4 with h4 | h4
 ·refine(ZnZ a n cap w h4).mono ?_;rintro e w' ⟨rfl,hb⟩;exact .inr ⟨λ ho=>by have:=ho.1;omega,rfl,hb⟩
 ·obtain⟨b,off,rfl,fk,_⟩:=h.pos ZO;exact Zpo b off (n-4) n cap bs w ZO h.1 fk h hs D0
section
section
variable {P:Program}{cu:Array Oper}{Q:Exit->Act->World->Prop}{S:World->Prop}
def Znv(P:Program)(cu:Array Oper)(Q:Exit->Act->World->Prop)(S:World->Prop)(i:Nat)(r1:List (Nat × Nat))(j:Nat)(r2:List (Nat × Nat)):Exit->Act->World->Prop
 | .normal,a,w=>S w->Z5 P cu Q ((i,1)::r1) S a w/\Z5 P cu Q ((j,1)::r2) S a w
 | e,a,w=>Q e a w
def Zi1(cu:Array Oper)(τ : List (Nat × Nat))(N5:Array Bool->Bool):List (Nat × Nat)->Array Bool->Bool
 | [],bV=>N5 bV
 |(i,k)::r,bV =>
  (if k=0 then(Region.ready .any cu bV).contains i&&Region.free .any cu bV i && !Zar τ i&&ZfR cu τ i bV
   else k==3&&(Region.ready .any cu bV).contains i&&Region.free .any cu bV i && !Zar τ i)&&Zi1 cu τ N5 r (bV.setIfInBounds i true)
def Znr(cu:Array Oper)(τ : List (Nat × Nat))(i:Nat)(r1:List (Nat × Nat))(j:Nat)(r2:List (Nat × Nat))(bV:Array Bool):Bool :=
 Region.ready .any cu bV==[i,j]&&(!Zar τ i&&(!Zar τ j&&(ZcC cu τ r1 (bV.setIfInBounds i true) true&&(ZcC cu τ r2 (bV.setIfInBounds j true) true&&r1.length==r2.length))))
theorem ZoB(hs:Region.noSelect cu=true)(hQ:∀ c a (d:Option Tmp) v w,Q (.panic c) (a.put d v) w->Q (.panic c) a w){τ r:List (Nat × Nat)}{i:Nat}{bV:Array Bool}{a:Act}{w:World}
  (hc:ZcC cu τ r (bV.setIfInBounds i true) true=true) (AF:Zar τ i=false) (hS:S w) (h:Z5 P cu Q ((i,1)::r) S a w) :
  wpOp P cu Q i (λ a' w'=>((true && !Zar τ i)=true->S w')/\Zb0 P cu Q (Zar τ) S r.length (bV.setIfInBounds i true) (true && !Zar τ i) a' w') a w:=by
 obtain⟨o,ho,h⟩:=h;have ih:=λ S a w=>Zek (P:=P) hs hQ τ r S (bV.setIfInBounds i true) true a w hc
 have e:(true && !Zar τ i)=true:=by rw[AF];rfl
 rw[e];unfold wpOp;simp only[ho];by_cases hw:Region.wanted o (yielded cu a.tmps)=true
 ·rw[if_pos hw,if_neg ZJ,if_neg ZJ,if_pos rfl] at h;rw[if_pos hw];exact .inl (Oper.wp_mono (λ a' w' ⟨S',h1,h2,h3⟩=>⟨λ _=>h1 _ h2,Zev h1 _ _ _ _ _ (ih S' _ _ (λ _=>h2) h3)⟩) h)
 ·rw[if_neg hw] at h ⊢;exact⟨λ _=>hS,ih _ _ _ (λ _=>hS) h⟩
theorem ZiM(hs:Region.noSelect cu=true)(hQ:∀ c a (d:Option Tmp) v w,Q (.panic c) (a.put d v) w->Q (.panic c) a w)(τ r1 r2:List (Nat × Nat))(i j:Nat):
  ∀ (σ : List (Nat × Nat)) (bV:Array Bool) (a:Act) (w:World),Zi1 cu τ (Znr cu τ i r1 j r2) σ bV=true->S w->Z5 P cu (Znv P cu Q S i r1 j r2) σ S a w ->
   Zb0 P cu Q (Zar τ) S (σ.length+(r1.length+1)) bV true a w
 | [],bV,a,w,hc,hS,h=>by
  have h:=h hS;simp only[Zi1,Znr,Bool.and_eq_true,beq_iff_eq,Bool.not_eq_true'] at hc;obtain⟨h1,h2,h3,h4,h5,h6⟩:=hc;have e:([]:List (Nat × Nat)).length+(r1.length+1)=r1.length+1:=ZM;rw[e];refine⟨λ h0=>absurd (h1▸h0) ZM,λ k hk=>?_⟩;rw[h1] at hk;simp only[List.mem_cons,List.not_mem_nil,or_false] at hk;rcases hk with rfl | rfl
  ·exact ZoB hs hQ h4 h2 hS h.1
  ·rw[h6];exact ZoB hs hQ h5 h3 hS h.2
 |(i0,k)::r,bV,a,w,hc,hS,h=>by
  obtain⟨o,ho,h⟩:=h;simp only[Zi1,Bool.and_eq_true] at hc;obtain⟨fY,oY⟩:=hc;have ih:=λ a w=>ZiM hs hQ τ r1 r2 i j r (bV.setIfInBounds i0 true) a w oY
  have e9:((i0,k)::r).length+(r1.length+1)=(r.length+(r1.length+1))+1:=ZP;rw[e9];by_cases k0:k=0
  ·rw[if_pos k0] at fY;simp only[Bool.and_eq_true,Bool.not_eq_true'] at fY;obtain⟨⟨⟨c1,c2⟩,c4⟩,c5⟩:=fY;have F:=λ(v:Value) (hy:YieldsIf P cu S o v a)=>ZdH (Lv:=λ b l=>b=true/\∀ k∈Zdc cu τ [i0],l.getD k true=false) ho hs (λ c a w=>hQ c a _ v w) c4 (λ _ _ _ h1 h2=>h2 h1.1) (λ lv l j oj h1 jS hj pU=>Zh5 c5 h1 jS hj pU) (r.length+(r1.length+1)) bV true a w
    (λ j oj=>Region.free_spec ho c2 j oj) (by simpa using c1) hy ⟨rfl,ZgH c5⟩ (λ _=>hS)
   by_cases hw:Region.wanted o (yielded cu a.tmps)=true
   ·rw[if_pos hw,if_pos k0] at h;obtain⟨v,hv,h⟩:=h;exact F v (Or.inl ⟨hw,hv⟩) (ih _ _ hS h)
   ·rw[if_neg hw] at h;exact F undef (Or.inr ⟨by simpa using hw,rfl⟩) (ih _ _ hS h)
  ·rw[if_neg k0] at fY;simp only[Bool.and_eq_true,Bool.not_eq_true',beq_iff_eq] at fY;obtain⟨⟨⟨k3,c1⟩,c2⟩,c4⟩:=fY;have F:=λ(v:Value) (hy:YieldsIf P cu (λ _=>True) o v a)=>ZdH ho hs (λ c a w=>hQ c a _ v w) c4 (Lv:=λ _ _=>True) (λ _ _ _ _ _=>trivial) (λ _ _ _ _ _ _ _ _=>trivial) (r.length+(r1.length+1)) bV true a w
    (λ j oj=>Region.free_spec ho c2 j oj) (by simpa using c1) hy trivial (λ _=>hS)
   by_cases hw:Region.wanted o (yielded cu a.tmps)=true
   ·rw[if_pos hw,if_neg k0,if_pos k3] at h;obtain⟨v,hv,h⟩:=h;exact F v (Or.inl ⟨hw,λ w' _=>hv w'⟩) (ih _ _ hS h)
   ·rw[if_neg hw] at h;exact F undef (Or.inr ⟨by simpa using hw,rfl⟩) (ih _ _ hS h)
theorem ZcN{id:Nat}{a:Act}{w:World}(S:World->Prop)(σ : List (Nat × Nat))(i:Nat)(r1:List (Nat × Nat))(j:Nat)(r2:List (Nat × Nat))(hm:P.follows .mixedOrders=true)
  (hc:(Region.noSelect cu&&(σ.length+(r1.length+1)==cu.size&&Zi1 cu (σ ++ (i,1)::r1) (Znr cu (σ ++ (i,1)::r1) i r1 j r2) σ (Array.replicate cu.size false)))=true)
  (hQ:∀ c a (d:Option Tmp) v w,Q (.panic c) (a.put d v) w->Q (.panic c) a w) (hS:S w.drew)
  (h:S w.drew->Z5 P cu (Znv P cu Q S i r1 j r2) σ S a w.drew):(Code.region id cu true).wp P Q a w:=by
 simp only[Bool.and_eq_true,beq_iff_eq] at hc;obtain⟨h1,h2,h3⟩:=hc;have hw:=ZiM h1 hQ (σ ++ (i,1)::r1) r1 r2 i j σ _ a _ h3 hS (h hS);rw[h2] at hw;exact wp_region_any hm (ZeW _ _ _ _ _ hw)
theorem Zfb{i j:Nat}{r1 r2:List (Nat × Nat)}{a:Act}{w:World}(h1:S w->Z5 P cu Q ((i,1)::r1) S a w)(h2:S w->Z5 P cu Q ((j,1)::r2) S a w):Z5 P cu (Znv P cu Q S i r1 j r2) [] S a w:=λ h=>⟨h1 h,h2 h⟩
end
end
def Zak(sh:List Sh)(r:Nat)(c:Clk):Nat->List Ev
 | 0=>[]
 | k+1=>Zak sh r c k++(match sh[k]? with | some s=>if k=r then [] else ZaW (c.get k) s.kept | none=>[])
theorem ZhL{sh:List Sh}{r:Nat}{c:Clk}(h:∀ s∈sh,s.kept.length<=1000):∀ k,(Zak sh r c k).length<=k*1000
 | 0=>ZL _
 | k+1=>by
  have ih:=ZhL (r:=r) (c:=c) h k;unfold Zak;rw[ZI];have:(match sh[k]? with | some s=>if k=r then [] else ZaW (c.get k) s.kept | none=>[]).length<=1000:=by
   cases hs:sh[k]? with
   | none=>simp
   | some s =>
    simp only[];split
    ·simp
    ·have h1:=h s (ZY hs);have h2:=List.length_filter_le (λ e:Ev=>decide (c.get k<e.n)) s.kept;unfold ZaW;omega
  omega
theorem Zn4{own:Own}{t p most:Nat}{sh:List Sh}{told:List Clk}{w:World}(h:PostAt own t w p most sh told)(hN:sh.length<=5)(r:Nat)(kX:r<sh.length)(c:Clk)(hk:∀ s∈sh,s.kept.length<=1000)(hf:Fresh own w):
  Calls prog 141 #[.pointer (some ⟨p,0,none⟩),.int .i64 r,Za2 c] w λ rr w'=>∃ v,rr = .returned (.tuple #[v,.int .i64 0])/\w'.ownsRow w.heap.size 89 12 v (Zak sh r c sh.length).length (evCells (Zak sh r c sh.length))/\Below w.heap.size w w':=by
 obtain⟨H,HF,zC⟩:=ZH3 h hf hk;have th:=(ZKr w).alloc (.cells (clkArr c) 44);obtain⟨mc,Do,df⟩:=ZH3 (ZBn w 44 (clkArr c)) (h.upd (ZUb (T:=λ _=>False) th.below hf) (λ i _ h=>h)) th;obtain⟨i0,hi,cM,cG,cK⟩:=info_parts Zbv;clear h hf hk th;go_enter func141,ntmps141;go_wp2_with fail;refine(Zij Do.out r).mono ?_;rintro _ w1 ⟨rfl,bS⟩;rw[show decide (r<sh.length)=true by simp[kX]];have eA:=df.out.step bS;have HC:=ZH (mc.out.ob bS);have jT:=H.out.upd (ZUb (T:=λ _=>False) eA.below HF.out) (λ i _ h=>h);have HO:Hid (w1.ownsRow w1.heap.size 89 12 (.slice none 0 0) (Zak sh r c 0).length (evCells (Zak sh r c 0))):=ZH (⟨rfl,.inl ⟨rfl,rfl⟩⟩);obtain⟨g1,g2,gs,s8,gt,cs,h3,g4,g5,h6,h7,h8,h9⟩:=jT;obtain⟨c0,c1⟩:=h3.two;have ce:=h3.lt;obtain⟨cE,HG,H9⟩:=ZH3 eA h7 h9;have Jg:Hid (Fresh own w1):=ZH (ZUb (T:=λ _=>False) eA.below HF.out).fresh;have HK:=ZH (ZKr w1);clear eA bS df mc Do h3 h7 h8 h9 g1 g2 g4 g5;go_wp2_with fail;go_loopw [8,20] (λ v i wr=>∃ k:Nat,k<=sh.length/\i = .int .i64 k/\Hid (wr.ownsRow w1.heap.size 89 12 v (Zak sh r c k).length (evCells (Zak sh r c k)))/\Hid (Kept w1.heap.size w1 wr)) (λ _ i _=>sh.length-(intOf i).toNat)
 case atStart=>exact⟨0,ZO,rfl,HO,HK⟩
 case round =>
  clear HO HK;obtain⟨k,jB,rfl,HO,HK⟩:=hrel;by_cases il:k<sh.length
  ·obtain⟨x,hx⟩:∃ x,sh[k]? = some x:=⟨_,ZX il⟩;obtain⟨q,kW,kn⟩:=H9.out k x hx;have hG:=HG.out.ob HK.out.below;have rL:=hG.cell k;rw[kW] at rL;have Fe:=hG.lt;have jC:(k:Int)<(sh.length:Int):=ZO;have cA:(0:Int)<=(k:Int):=ZO;have oP:Zak sh r c (k+1)=Zak sh r c k++(if k=r then [] else ZaW (c.get k) x.kept):=by
    rw[Zak,hx]
   have hlen:=ZhL zC.out (r:=r) (c:=c) k;have fy:=zC.out x (ZY hx);have fq:=ZH oP;obtain⟨aa,eV,rfl,_⟩:=EvSl.ab HO.out;have HQ:=ZH (kn.upd (ZUb (T:=λ _=>False) HK.out.below Jg.out) (λ h=>h));have mu:=(HC.out.ob HK.out.below).clk (i:=k) ZO;have eX:=(HC.out.ob HK.out.below).lt;have ef:(k:Int)<5:=ZO;clear hx kW kn hG oP;by_cases oE:k=r
   ·subst oE;rw[if_pos rfl,List.append_nil] at fq;have dz:((k:Int)==(k:Int))=true:=ZM;go_wp2
    go_roundw
    case rel=>exact⟨k+1,ZO,ZN,by rw[fq.out];exact HO,HK⟩
    case measure=>simp[intOf];omega
   ·rw[if_neg oE] at fq;have dz:((k:Int)==(r:Int))=false:=ZP;go_wp2_with fail;refine(Zoi HQ.out (c.get k) ZO).mono ?_;rintro _ w3 ⟨v3,rfl,ew,bZ⟩;obtain⟨a3,dm,rfl,kQ⟩:=EvSl.ab ew;have cY:=HK.out.step bZ;have rH:=Ze HO.out bZ;have jQ:=List.length_filter_le (λ e:Ev=>decide (c.get k<e.n)) x.kept;have hfl2:(ZaW (c.get k) x.kept).length<=1000:=by unfold ZaW;omega
    have dQ:w1.heap.size<=w3.heap.size:=cY.le;obtain⟨cC,gV,iq⟩:=ZH3 cY rH kQ;clear cY rH kQ ew bZ jQ;go_wp2_with (at_builtin;refine Zc _ rfl (.tmp 28) (.tmp 33) _ rfl w1.heap.size 89 i0 _ 12 112 underlying128 hi cM cG cK rfl ZO (.slice aa (Zak sh r c k).length eV) (Zak sh r c k).length (evCells (Zak sh r c k)) rfl gV.out w3.heap.size a3 (ZaW (c.get k) x.kept).length dm (evCells (ZaW (c.get k) x.kept)) rfl iq.out.reads (Zbi _) ZF ZO dQ ?_;intro v7 w7 bX cN dP)
    have gM:w7.ownsRow w1.heap.size 89 12 v7 (Zak sh r c (k+1)).length (evCells (Zak sh r c (k+1))):=by
     rw[fq.out,ZI,Zbj];exact bX
    have fd:Hid (Kept w1.heap.size w1 w7):=ZH (⟨cC.out.below.grown cN cC.out.le (λ g hg=>(Zb gV.out hg).1),ZT cC.out.le cN.size⟩);have gW:=ZH gM;go_roundw
    case rel=>exact⟨k+1,ZO,ZN,gW,fd⟩
    case measure=>simp[intOf];omega
  ·obtain rfl:k=sh.length:=ZO;obtain⟨aa,eV,rfl,_⟩:=EvSl.ab HO.out;go_wp2_with fail;go_ret2
   exact⟨_,rfl,Zi HO.out cE.out.le,(cE.out.trans HK.out cE.out.le).below⟩
def ZaE(sh:List Sh)(told:List Clk):Nat->List Sh
 | 0=>sh
 | k+1=>match (ZaE sh told k)[k]? with | some x=>(ZaE sh told k).set k (cutSh told k x) | none=>ZaE sh told k
theorem ZcO(sh:List Sh)(told:List Clk):∀ k,(ZaE sh told k).length=sh.length
 | 0=>rfl
 | k+1=>by
  unfold ZaE;split
  ·rw[List.length_set,ZcO sh told k]
  ·exact ZcO sh told k
theorem ZfX(sh:List Sh)(told:List Clk):∀ k j,k<=j->(ZaE sh told k)[j]? = sh[j]?
 | 0,j,_=>rfl
 | k+1,j,h=>by
  unfold ZaE;split
  ·rw[List.getElem?_set_ne ZO,ZfX sh told k j ZO]
  ·exact ZfX sh told k j ZO
theorem ZgT:∀ (l:List Clk) (i:Nat) (c:Clk),i<l.length->clkCells (l.set i c)=(clkCells l).take (i*5)++(clkArr c).toList++(clkCells l).drop (i*5+5)
 | x::l,0,c,_=>by
  have e:clkCells (x::l)=(clkArr x).toList++clkCells l:=rfl;have e2:clkCells (c::l)=(clkArr c).toList++clkCells l:=rfl;rw[ZB,e2,e];simp
 | x::l,i+1,c,h=>by
  have e:clkCells (x::l)=(clkArr x).toList++clkCells l:=rfl;have e2:clkCells (x::l.set i c)=(clkArr x).toList++clkCells (l.set i c):=rfl;rw[ZC,e2,e,ZgT l i c (by simpa using h)];obtain⟨X,hX⟩:∃ X,X=(clkArr x).toList:=⟨_,rfl⟩;have h5:X.length=5:=by rw[hX];rfl
  rw[←hX];have t1:(X++clkCells l).take ((i+1)*5)=X++(clkCells l).take (i*5):=by
   rw[List.take_append,h5,ZU ZO,show(i+1)*5-5=i*5 by omega]
  have t2:(X++clkCells l).drop ((i+1)*5+5)=(clkCells l).drop (i*5+5):=by
   rw[List.drop_append,h5,List.drop_of_length_le ZO,show(i+1)*5+5-5=i*5+5 by omega,List.nil_append]
  rw[t1,t2];simp only[List.append_assoc]
theorem PostAt.tell{own:Own}{w:World}{t p most r gt:Nat}{sh:List Sh}{told:List Clk}{gs cap:Nat}{cs:Array Value}(c:Clk)
  (h1:own p=t) (h2:told.length=sh.length) (h3:Blk w p 243 #[.slice (some ⟨gs,0,none⟩) sh.length cap,.slice (some ⟨gt,0,none⟩) sh.length sh.length]) (h4:own gs=t) (h5:own gt=t) (h6:sh.length<=cap) (h7:Blk w gs 244 cs) (h8:Blk w gt 44 (clkCells told).toArray)
  (h9:∀ i s,sh[i]? = some s->∃ q,cs[i]? = some (.pointer (some ⟨q,0,none⟩))/\ShelfAt own (t+1+i) w q most s.base s.kept) (hr:r<sh.length) (hf:Fresh own w) :
  PostAt own t (setAll w gt (r*5) (clkArr c).toList) p most sh (told.set r c):=by
 have hb:=Zba (clkArr c).toList (r*5) w (clkCells told) h8 (by rw[Zb9];show r*5+5<=told.length*5;omega);have eX:(clkCells told).take (r*5)++(clkArr c).toList++(clkCells told).drop (r*5+(clkArr c).toList.length)=clkCells (told.set r c):=(ZgT told r c ZO).symm;rw[eX] at hb;have hu:Upd (· = t) own own w (setAll w gt (r*5) (clkArr c).toList):=(Upd.refl _ own w hf).setAll (λ _=>h5) _ _;have FG:p≠gt:=λ e=>by
  have:=h3.bN h8 ZJ;exact this e
 have SZ:gs≠gt:=λ e=>by
  have:=h7.bN h8 ZJ;exact this e
 refine⟨h1,by rw[List.length_set];exact h2,gs,cap,gt,cs,(Zaj FG _ _ _).trans h3,h4,h5,h6,(Zaj SZ _ _ _).trans h7,hb,λ i s hs=>?_⟩;obtain⟨q,kW,kn⟩:=h9 i s hs;exact⟨q,kW,kn.upd hu ZO⟩
theorem Zly{own:Own}{t p most:Nat}{sh:List Sh}{told:List Clk}{w:World}(h:PostAt own t w p most sh told)(hf:Fresh own w)(hN:sh.length<=5)(r:Nat)(kX:r<sh.length)(c:Clk)(hc:∀ i,c.get i<=2000000){tr:Clk}(oQ:told[r]? = some tr)(gG:∀ i,tr.get i<=2000000)(hk:∀ s∈sh,s.kept.length<=1000000/\s.base<=1000000):
  Calls prog 90 #[.pointer (some ⟨p,0,none⟩),.int .i64 r,Za2 c] w λ rr w'=>rr = .returned (.int .i64 0)/\∃ own',PostAt own' t w' p most (ZaE sh (told.set r (tr.join c)) sh.length) (told.set r (tr.join c))/\Upd (λ m=>t<=m/\m<=t+sh.length) own own' w w':=by
 obtain⟨H,HF,zC⟩:=ZH3 h hf hk;have th:=(ZKr w).alloc (.cells (clkArr c) 44);obtain⟨mc,Do,df⟩:=ZH3 (ZBn w 44 (clkArr c)) (h.upd (ZUb (T:=λ _=>False) th.below hf) (λ i _ h=>h)) th;have nU:(0:Int)<=(r:Int):=ZO;have nw:(r:Int)<(sh.length:Int):=ZO;obtain⟨nI,px,QQ⟩:=ZH3 oQ gG hc;clear h hf hk th oQ gG hc;go_enter func90,ntmps90;go_wp2_with fail;refine(Zij Do.out r).mono ?_;rintro _ w1 ⟨rfl,bS⟩;rw[show decide (r<sh.length)=true by simp[kX]];have eA:=df.out.step bS;have KS:=mc.out.ob bS;have jT:=H.out.upd (ZUb (T:=λ _=>False) eA.below HF.out) (λ i _ h=>h);have Jg:Hid (Fresh own w1):=ZH ((ZUb (T:=λ _=>False) eA.below HF.out).fresh);obtain⟨g1,g2,gs,s8,gt,cs,h3,g4,g5,h6,h7,h8,h9⟩:=jT;obtain⟨c0,c1⟩:=h3.two;have ce:=h3.lt;have LX:=h8.lt;obtain⟨e0,e1,e2,e3,e4⟩:=KS.aE;have A7:=KS.lt;have d0:=h8.aC nI.out (j:=0) ZO;have d1:=h8.aC nI.out (j:=1) ZO;have d2:=h8.aC nI.out (j:=2) ZO;have d3:=h8.aC nI.out (j:=3) ZO;have d4:=h8.aC nI.out (j:=4) ZO;simp only[Nat.add_zero,Clk.get] at d0 d1 d2 d3 d4;obtain⟨cE,H3,H7,H8,H9,G1,G2,G4,G5⟩:=ZH9 eA h3 h7 h8 h9 g1 g2 g4 g5;clear eA KS bS df mc Do h3 h7 h8 h9 g1 g2 g4 g5;go_wp2_with fail;refine ZSi [(0,3),(1,0),(2,3),(3,0),(4,3),(5,3),(6,0),(7,3),(8,0),(9,3),(10,3),(11,0),(12,0),(13,1),(14,3),(15,2)] λ bR=>?_
 repeat((first | refine ZSa ?_ | refine ZSb ?_ | refine ZSc ?_);simp only[Act.put,ZA,ZB,ZC])
 refine ZSd λ K hK=>?_
 go_simp;obtain⟨J,hJ⟩:∃ J,J=tr.join c:=⟨_,rfl⟩;refine(Zqo tr c w1.drew px.out QQ.out).mono ?_;rintro _ w2 ⟨rfl,bW⟩;rw[←hJ];have cJ:=(Kept.drew (ZKr w1)).step bW;have rm:=H8.out.ob cJ.below;have rD:=rm.lt;have n0:=rm.aC nI.out (j:=0) ZO;have n1:=rm.aC nI.out (j:=1) ZO;have n2:=rm.aC nI.out (j:=2) ZO;have n3:=rm.aC nI.out (j:=3) ZO;have n4:=rm.aC nI.out (j:=4) ZO;simp only[Nat.add_zero] at n0;have f0:=rm.frozen (r*5);have f1:=rm.frozen (r*5+1);have f2:=rm.frozen (r*5+2);have f3:=rm.frozen (r*5+3);have f4:=rm.frozen (r*5+4);have Ik:=H3.out.ob cJ.below;obtain⟨m0,m1⟩:=Ik.two;have np:=Ik.lt;obtain⟨M7,IZ,cr,HJ⟩:=ZH4 rm Ik cJ hJ;refine hK.out (λ w'=>Kept w1.heap.size w1 w') _ _ (λ _ h=>h) cJ (λ bT=>?_);clear hK K bR rm Ik bW cJ bT hJ;repeat((first | refine ZSa ?_ | refine ZSb ?_ | refine ZSc ?_);simp only[Act.put,ZA,ZB,ZC])
 refine ZSe λ K hK=>?_
 go_simp;refine hK.out _ _ ?_;clear hK K;refine ZSf ?_;obtain⟨W3,m7⟩:∃ W3,W3=setAll w2 gt (r*5) (clkArr J).toList:=⟨_,rfl⟩;change Exit.then _ _ Exit.normal _ (setAll w2 gt (r*5) (clkArr J).toList);rw[←m7];have cm:Upd (λ m=>t<=m/\m<=t+sh.length) own own w w2:=ZUb (cE.out.trans cr.out cE.out.le).below HF.out;have cO:Upd (λ m=>t<=m/\m<=t+sh.length) own own w W3:=by
  rw[m7];exact cm.setAll (λ _=>by rw[G5.out];omega) _ _
 have gi:PostAt own t W3 p most (ZaE sh (told.set r J) 0) (told.set r J):=by
  rw[m7]
  exact PostAt.tell J G1.out G2.out IZ.out G4.out G5.out h6 (H7.out.ob cr.out.below) M7.out (λ i s hs=>by
   obtain⟨q,kW,kn⟩:=H9.out i s hs
   exact⟨q,kW,kn.upd (ZUb (T:=λ _=>False) cr.out.below Jg.out) (λ h=>h)⟩) kX cm.fresh
 have FG:p≠gt:=λ e=>by
  have:=IZ.out.bN M7.out ZJ;exact this e
 have KM:Blk W3 p 243 #[.slice (some ⟨gs,0,none⟩) sh.length s8,.slice (some ⟨gt,0,none⟩) sh.length sh.length]:=by
  rw[m7];exact(Zaj FG _ _ _).trans IZ.out
 obtain⟨a0,a1⟩:=KM.two;have hltc3:=KM.lt;obtain⟨HU,HP⟩:=ZH2 cO gi;clear cm cO gi KM m7;obtain⟨TD,K5⟩:∃ TD,TD=told.set r J:=⟨_,rfl⟩;rw[←K5] at HP;have RB:=ZH K5;clear K5 c0 c1 d0 d1 d2 d3 d4 e0 e1 e2 e3 e4 n0 n1 n2 n3 n4 f0 f1 f2 f3 f4 m0 m1;go_wp2_with fail;go_loopw [32] (λ i wr=>∃ (k:Nat) (io:Own),k<=sh.length/\i = .int .i64 k/\Hid (PostAt io t wr p most (ZaE sh TD k) TD)/\Hid (Upd (λ m=>t<=m/\m<=t+sh.length) own io w wr)) (λ i _=>sh.length-(intOf i).toNat)
 case atStart=>exact⟨0,own,ZO,rfl,HP,HU⟩
 case round =>
  clear HP HU;obtain⟨k,io,jB,rfl,HP,HU⟩:=hrel;by_cases il:k<sh.length
  ·obtain⟨x,hx⟩:∃ x,sh[k]? = some x:=⟨_,ZX il⟩;have nE:(ZaE sh TD k)[k]? = some x:=by rw[ZfX sh TD k k (ZL _)];exact hx
   have Pc:=zC.out x (ZY hx);have HX:=ZH nE;clear hx nE;go_wp2_with fail;refine(Zlz HP.out HU.out.fresh (by rw[ZcO];exact hN) k HX.out Pc.1 Pc.2).mono ?_;rintro _ w4 ⟨rfl,dG,rI,dS⟩;have oP:ZaE sh TD (k+1)=(ZaE sh TD k).set k (cutSh TD k x):=by
    rw[ZaE,HX.out]
   rw[←oP] at rI;obtain⟨sL,fF⟩:=ZH2 rI (HU.out.trans (dS.mono (λ m hm=>by show t<=m/\m<=t+sh.length;omega)));clear rI dS oP;go_wp2
   go_roundw
   case rel=>exact⟨k+1,dG,ZO,ZN,sL,fF⟩
   case measure=>simp[intOf];omega
  ·obtain rfl:k=sh.length:=ZO;go_wp2
   go_ret;rw[←HJ.out,←RB.out];exact⟨rfl,io,HP.out,HU.out⟩
theorem Zgo{α : Type}{l:List α}{i:Nat}{a : α}(h:l[i]? = some a):l.set i a=l:=by
 obtain⟨hi,rfl⟩:=ZZ.1 h;exact List.set_getElem_self hi
def Z7(most r:Nat)(l:List Ev)(sh:List Sh)(told:List Clk):Nat × Nat × List Sh :=
 match sh[r]? with
 | none=>(0,23,sh)
 | some x =>
  if (Z1 most x.base x.kept l).1=0 then
   ((cutSh told r ⟨x.base,(Z1 most x.base x.kept l).2⟩).base+(cutSh told r ⟨x.base,(Z1 most x.base x.kept l).2⟩).kept.length,0,sh.set r (cutSh told r ⟨x.base,(Z1 most x.base x.kept l).2⟩))
  else(0,(Z1 most x.base x.kept l).1,sh)
theorem ZhZ{most base:Nat}{kept l:List Ev}(hk:kept.length<=most):((Z1 most base kept l).1=0/\(Z1 most base kept l).2.length<=most)∨((Z1 most base kept l).1=21/\(Z1 most base kept l).2=kept):=by
 unfold Z1;simp only[];split
 ·exact .inl ⟨rfl,hk⟩
 ·split
  ·exact .inr ⟨rfl,rfl⟩
  ·refine .inl ⟨rfl,?_⟩;rw[ZI];omega
theorem Ze8(told:List Clk)(s:Nat)(x:Sh):(cutSh told s x).base+(cutSh told s x).kept.length=x.base+x.kept.length/\(cutSh told s x).kept.length<=x.kept.length:=by
 have h1:x.base<=Zbo x.base x.kept.length (Zbw told s):=Nat.le_max_left _ _;have h2:Zbo x.base x.kept.length (Zbw told s)<=x.base+x.kept.length:=Nat.max_le.2 ⟨Nat.le_add_right _ _,Nat.min_le_right _ _⟩;unfold cutSh;simp only[List.length_drop];omega
theorem Zki{own:Own}{t p most:Nat}{sh:List Sh}{told:List Clk}{w:World}(h:PostAt own t w p most sh told)(hf:Fresh own w)(hN:sh.length<=5)(r:Nat){x:Sh}(hx:sh[r]? = some x)(hk:x.kept.length<=most)(cD:x.base+most<=1000000)
  {a:Option Addr} {n cap:Nat} {l:List Ev} (hs:EvSl w a n cap l) (hn:n<=1000000) (n0:Nat) (hl:From1 n0 l) (fJ:n0<=x.base+x.kept.length+1) (hr:∀ e∈l,e.r=r) :
  Calls prog 89 #[.pointer (some ⟨p,0,none⟩),.int .i64 r,.slice a n cap] w λ rr w'=>rr = .returned (.tuple #[.int .i64 (Z7 most r l sh told).1,.int .i64 (Z7 most r l sh told).2.1])/\∃ own',PostAt own' t w' p most (Z7 most r l sh told).2.2 told/\Upd (· = t+1+r) own own' w w':=by
 have kX:r<sh.length:=(ZZ.1 hx).1;have fE:=ZH (hs.2.2.1);have im:Z7 most r l sh told=if (Z1 most x.base x.kept l).1=0 then
   ((cutSh told r ⟨x.base,(Z1 most x.base x.kept l).2⟩).base+(cutSh told r ⟨x.base,(Z1 most x.base x.kept l).2⟩).kept.length,0,sh.set r (cutSh told r ⟨x.base,(Z1 most x.base x.kept l).2⟩))
  else(0,(Z1 most x.base x.kept l).1,sh):=by
  unfold Z7;rw[hx]
 have nU:(0:Int)<=(r:Int):=ZO;have nw:(r:Int)<(sh.length:Int):=ZO;obtain⟨H,HF,HS,HL,HR,HX,gX,zH⟩:=ZH8 h hf hs hl hr hx im fJ;clear h hf hs hl hr hx im fJ;go_enter func89,ntmps89;go_wp2_with fail;refine(Zij H.out r).mono ?_;rintro _ w1 ⟨rfl,bS⟩;rw[show decide (r<sh.length)=true by simp[kX]];have HK:=ZH (Kept.start bS);clear bS;go_wp2_with fail;go_loopw [17] (λ i wr=>∃ q:Nat,q<=n/\i = .int .i64 q/\Hid (Kept w.heap.size w wr)) (λ i _=>n-(intOf i).toNat)
 case atStart=>exact⟨0,ZO,rfl,HK⟩
 case round =>
  clear HK;obtain⟨q,hq,rfl,HK⟩:=hrel;by_cases dy:q<n
  ·obtain⟨e,he⟩:∃ e,l[q]? = some e:=⟨_,ZX (by rw[fE.out];exact dy)⟩;have yn:=HR.out e (ZY he);have hs:=HS.out.of_same (w':=wr) (λ ad _ hl=>HK.out.below.block _ hl) HK.out.le;obtain⟨bk,off,rfl,cQ,c0,c1,c2,c3,c4,c5,c6,c7,c8,c9,cP,cR⟩:=hs.at_ he;have hx:=ZBn wr 89 (evArr e);have x0:=hx.cell 0;have dz:((e.r:Int)==(r:Int))=true:=by simp[yn]
   have cr:=ZH (HK.out.alloc (.cells (evArr e) 89));clear hs he yn hx HK;go_wp2
   go_roundw
   case rel=>exact⟨q+1,ZO,ZN,cr⟩
   case measure=>simp[intOf];omega
  ·obtain rfl:q=n:=ZO;have cX:=ZUb (T:=λ _=>False) HK.out.below HF.out;have da:=ZH (ZUb (T:=(· = t+1+r)) HK.out.below HF.out);have hp:=H.out.upd cX (λ i _ h=>h);have hs:=HS.out.of_same (w':=wr) (λ ad _ hl=>HK.out.below.block _ hl) HK.out.le;obtain⟨gs,s8,gt,cs,pq,h3,h7,h8,kW,kn,h6,dA⟩:=hp.one HX.out;obtain⟨c0,c1⟩:=h3.two;have ce:=h3.lt;have LW:=h7.lt;have rL:=h7.cell r;rw[kW] at rL;obtain⟨HP,eP,HQ,HO⟩:=ZH4 hp hs kn dA;clear cX hp hs kn dA h3 h7 h8 kW HK;go_wp2_with fail;refine(ZpG HQ.out da.out.fresh ZO ZO ZO eP.out hn n0 HL.out zH.out).mono ?_;rintro _ w2 ⟨rfl,cg,i6,cm⟩;obtain⟨o7,bW,eN⟩:=HO.out cg w2 ⟨x.base,(Z1 most x.base x.kept l).2⟩ cm i6;obtain⟨PS,OB⟩:∃ PS,PS=Z1 most x.base x.kept l:=⟨_,rfl⟩;have yk:=ZhZ (most:=most) (base:=x.base) (kept:=x.kept) (l:=l) hk;have zL:=gX.out;rw[←OB] at yk o7 zL i6 ⊢;obtain⟨Dp,dc,q7⟩:=ZH3 zL (da.out.trans cm) o7;clear cm i6 o7 zL OB bW eN gX;rcases yk with ⟨hz,fc⟩|⟨hz,fc⟩
   ·rw[hz];go_wp2_with fail;have fp:(sh.set r ⟨x.base,PS.2⟩)[r]? = some ⟨x.base,PS.2⟩:=List.getElem?_set_self kX;refine(Zlz q7.out dc.out.fresh (by rw[List.length_set];exact hN) r fp (by show PS.2.length<=1000000;omega) (by show x.base<=1000000;omega)).mono ?_;rintro _ w3 ⟨rfl,ey,gi,cO⟩;rw[List.set_set] at gi;obtain⟨y,hy⟩:∃ y,y=cutSh told r ⟨x.base,PS.2⟩:=⟨_,rfl⟩;have yZ:=Ze8 told r ⟨x.base,PS.2⟩;have q9:=Dp.out;rw[if_pos hz,←hy] at q9;rw[←hy] at gi yZ;simp only[] at yZ;have yS:(sh.set r y)[r]? = some y:=List.getElem?_set_self kX;obtain⟨gs3,gcap3,gt3,cs3,pq3,h3,h7,h8,kW,kn,h6',dA⟩:=gi.one yS;rw[List.length_set] at h3;obtain⟨d0,d1⟩:=h3.two;have np:=h3.lt;have hlts3:=h7.lt;have Mk:=h7.cell r;rw[kW] at Mk;obtain⟨gw,Rt,dI,J1⟩:=ZH4 gi kn (dc.out.trans cO) q9;clear gi kn cO q9 fp yS dA h3 h7 h8 kW hy;go_wp2_with fail;refine(Zdk Rt.out ZO ZO).mono ?_;rintro _ w4 ⟨rfl,cz⟩;have fK:=ZH cz;clear cz;go_wp2_with fail;go_ret2
    rw[J1.out];exact⟨by first | rfl | (simp;omega),ey,gw.out.upd (ZUb (T:=λ _=>False) fK.out dI.out.fresh) (λ i _ h=>h),dI.out.kept fK.out⟩
   ·rw[hz];go_wp2_with fail;go_ret2
    have q9:=Dp.out;rw[if_neg ZO] at q9;have rI:=q7.out;rw[fc,Zgo HX.out] at rI;rw[q9,hz];exact⟨rfl,cg,rI,dc.out⟩
theorem ZoI(w:World):(zeroValue 5).run prog w = .ok (.int .u8 0) w:=by
 have h:=ZaA;rcases hi:prog.info? 5 with _ | i
 ·rw[hi] at h
  cases h
 ·rw[hi] at h;have hz:i.zero=some (.int .u8 0):=by simp at h;exact h.1
  simp[zeroValue,typeInfo,hi,hz]
theorem ZhC{P:Program}(w:World)(t e ty:TypeId)(ht:P.underlying t=some (.slice e))(a:Option Addr)(c:Nat):
  (Builtin.clear_ #[t] ty #[.slice a 0 c]).run P w = .ok (.tuple #[]) w:=by
 rcases a with _ | a <;> simp[Builtin.clear_,run_underlying ht]
theorem ZpQ{own:Own}{t p:Nat}{w:World}{v:Value}{bytes:List Nat}{down cut:Bool}{keep:Int}(hm:own p=t)(hb:Blk w p 233 (diskArr v down cut keep))(hr:RowB own t w v bytes)(hf:Fresh own w):
  DiskAt own t (w.setCell ⟨p,0,none⟩ v) p ⟨bytes,down,cut,keep⟩/\Upd (· = t) own own w (w.setCell ⟨p,0,none⟩ v) :=
 ⟨⟨hm,v,hb.ai 0 v,ZcV hb hr 0 v⟩,(Upd.refl _ own w hf).setCell (p:=⟨p,0,none⟩) (λ _=>hm) _⟩
theorem ZjU{own:Own}{t p n:Nat}{w:World}{d:Dk}(h:DiskAt own t w p d)(hf:Fresh own w)(hn:n<=d.bytes.length)(hd:d.bytes.length<=1000000000):
  Calls prog 84 #[.pointer (some ⟨p,0,none⟩),.int .i64 n] w λ r w'=>r = .returned (.tuple #[])/\DiskAt own t w' p (d.trim n)/\Upd (· = t) own own w w':=by
 obtain⟨bytes,down,cut,keep⟩:=d;obtain⟨hm,v,hb,hr⟩:=h;simp only at hb hr hd hn;obtain⟨a0,lg,rfl,fX⟩:=Bytes.ab hr.row;have qo:bytes.length<=lg:=fX.1;obtain⟨N,hN⟩:∃ N,N=bytes.length:=⟨_,rfl⟩;have cB:=hr.row;have eX:=λ ty (w:World) (a:Option Addr) (c:Nat)=>ZhC (P:=prog) w 106 5 ty underlying106 a c
 rw[←hN] at hb cB hn hd qo;obtain⟨c0,c1,c2,c3⟩:=hb.four;have f0:=hb.frozen 0;have ce:=hb.lt;obtain⟨HB,HR,HF,HM,i8,HN⟩:=ZH6 hb hr hf hm cB hN;clear hb hr hf hm fX cB hN;have eH:(n:Int)<=(lg:Int):=ZO;have hnN:(n:Int)<=(N:Int):=ZO;have fJ:(0:Int)<=(n:Int):=ZO;have nk:decide ((n:Int)<0)=false:=ZM;have eN:decide ((N:Int)<(n:Int))=false:=ZP;rcases Nat.eq_or_lt_of_le hn with rfl | iV
 ·go_enter func84,ntmps84;go_wp2_with fail
  all_goals(try (have ru:lg=n:=by assumption);try subst ru)
  all_goals
   go_end0
   have js:(Dk.trim ⟨bytes,down,cut,keep⟩ bytes.length)=⟨bytes,down,cut,keep⟩:=by simp[Dk.trim]
   rw[←HN.out] at js;rw[js];have dC:=HR.out;rw[←HN.out] at dC;have hs:=ZpQ HM.out HB.out dC HF.out;exact⟨rfl,hs.1,hs.2⟩
 ·obtain⟨g,rfl⟩:∃ g,a0=some ⟨g,0,none⟩:=by
   rcases i8.out.2 with ⟨_,h0⟩|⟨g,cap,cur,h0,_⟩
   ·omega
   ·injection h0 with h0
    exact⟨g,h0⟩
  have gB:own g=t:=HR.out.own g rfl;have B9:g≠p:=λ e=>Zo HR.out.row HB.out ZJ (by rw[e];rfl)
  have kJ:(cells bytes).length=N:=by rw[ZdW,HN.out]
  have jJ:=Zjz (i:=n) (j:=N) (zs:=(Builtin.zeroCells #[.int .u8 0] (N-n)).toList) i8.out hn (ZL _) (by simp[size_zeroCells]);have e0:(cells bytes).drop (N*1)=[]:=List.drop_eq_nil_of_le ZO;have e1:n+(N-N)=n:=ZO;have e2:(cells bytes).take (n*1)++[]=cells (bytes.take n):=by simp[cells]
  rw[e0,e1,e2,Nat.mul_one] at jJ;obtain⟨ho,jz⟩:=jJ;simp only[setAll] at ho jz;have em:∀ ty,(Builtin.clear_ #[106] ty #[.slice (some ⟨g,n,none⟩) (N-n) (lg-n)]).run prog w = .ok (.tuple #[]) (setAll w g n (Builtin.zeroCells #[.int .u8 0] (N-n)).toList):=by
   intro ty;obtain⟨cur,hh,gz⟩:∃ cur,Blk w g 5 cur/\cur.size=lg*1:=by
    rcases i8.out.2 with ⟨_,h0⟩|⟨g',cap,cur,h0,_,hh,_,_,gz,_⟩
    ·omega
    ·injection h0 with h0 _ h2
     injection h0 with h0
     injection h0 with h0
     subst h0 h2;exact⟨cur,hh,gz⟩
   refine ZeH _ 106 5 ty (.int .u8 0) underlying106 ZoI (by intro v hv;simp[Value.cells] at hv;subst hv;rfl) g _ (N-n) _ ZO (λ k hk=>?_) (λ k _=>hh.frozen _);have jB:k<(N-n)*1:=hk;rw[hh.cell,Array.getElem?_eq_getElem (by rw[gz];omega)];rfl
  have fk:=HB.out.grown jz (λ e=>B9 (by injection e with e;exact e.symm));generalize setAll w g n (Builtin.zeroCells #[.int .u8 0] (N-n)).toList=W3 at *;obtain⟨d0,d1,d2,d3⟩:=fk.four;have f03:=fk.frozen 0;have np:=fk.lt;obtain⟨HO,HG,rT,Nn,uY⟩:=ZH5 ho jz gB B9 fk;clear ho jz gB B9 e0 e1 e2 kJ fk;go_enter func84,ntmps84;go_wp2_with fail;go_end0
  have hf:=uY.out.ai 0 (.slice (some ⟨g,0,none⟩) n lg);have cQ:(bytes.take n).length=n:=by rw[ZV,←HN.out,Nat.min_eq_left hn]
  have cm:Upd (· = t) own own w W3:=⟨HG.out.os,HG.out.tape,HG.out.output,HG.out.size,λ _ _=>rfl,λ b hb hn=>HG.out.block b hb (λ e=>hn (by injection e with e;rw[e];exact rT.out)),λ b hb=>HF.out b (ZT HG.out.size hb)⟩;refine⟨rfl,⟨HM.out,_,hf,?_,λ g' hg=>?_⟩,cm.setCell (p:=⟨p,0,none⟩) (λ _=>HM.out) _⟩
  ·show World.ownsRow _ 0 5 1 _ (bytes.take n).length (cells (bytes.take n))
   rw[cQ];exact Zh HO.out (λ g' hg _=>Below.heap_setCell _ _ _ _ (λ he=>Zo HO.out uY.out ZJ (by rw[hg,he])))
  ·injection hg with hg
   subst hg;exact rT.out
end Go.Proofs.YtjkfognelhiepaaGreat
