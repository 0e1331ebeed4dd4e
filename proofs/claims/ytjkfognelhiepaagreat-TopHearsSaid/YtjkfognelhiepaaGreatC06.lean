import Derived.Test.YtjkfognelhiepaaGreatC05
namespace Go.Proofs.YtjkfognelhiepaaGreat
open Go.RowKit _root_.Go.Proofs.Tryz
set_option maxRecDepth 100000
set_option maxHeartbeats 8000000
theorem ZdF{P:Program}(w:World)(dT sT ty DX:TypeId)(i:TypeInfo)(sz b o s5 KG:Nat)(a:Option Addr)(uj MT:Nat)(cs:List Value)
  (hu:P.underlying dT=some (.slice DX)) (hi:P.info? DX=some i) (hs:i.size=sz) (hn:cs.length=Nat.min uj s5*sz)
  (Mx:Reads w w.heap.size sz a (Nat.min uj s5) cs) (hc:∀ j,j<cs.length->(w.cell? ⟨b,o+j,none⟩).isSome=true) (hf:∀ j,j<cs.length->w.frozen? ⟨b,o+j,none⟩=false) (h1:∀ v∈cs,v.oneCell'=true) :
  (Builtin.copy_ #[dT,sT] ty #[.slice (some ⟨b,o,none⟩) s5 KG,.slice a uj MT]).run P w = .ok (goInt (Nat.min uj s5)) (setAll w b o cs):=by
 have ed:=run_storeCells_cells (P:=P) b o cs 0 w (by simpa using hc) (by simpa using hf) h1;rw[ZeF] at ed;subst hs;rcases Nat.eq_zero_or_pos (Nat.min uj s5) with h0 | h0
 ·rw[h0,Nat.zero_mul] at hn;have gz:cs=[]:=List.eq_nil_of_length_eq_zero hn;subst gz;rcases a with _ | a
  ·simp[Builtin.copy_,run_underlying hu,Builtin.lenOf,Builtin.firstCells,sizeOf,typeInfo,hi,h0,storeCells,setAll]
  ·have hl:=run_loadCells_list (P:=P) w a [] ZM;simp only[List.length_nil] at hl;simp[Builtin.copy_,run_underlying hu,Builtin.lenOf,Builtin.firstCells,sizeOf,typeInfo,hi,h0,hl,storeCells,setAll]
 ·obtain⟨ad,rfl,_,eX⟩:=Mx.2 h0;have hl:=run_loadCells_list (P:=P) w ad cs eX;simp[Builtin.copy_,run_underlying hu,Builtin.lenOf,Builtin.firstCells,sizeOf,typeInfo,hi,←hn,hl];rw[Nat.add_zero] at ed;rw[ed];rfl
abbrev shelfArr(most base:Nat)(v:Value):Array Value:=#[.int .i64 most,.int .i64 base,v]
structure ShelfAt(own:Own)(t:Nat)(w:World)(p:Nat)(most base:Nat)(kept:List Ev):Prop where
 mine:own p=t
 ex:∃ v,Blk w p 281 (shelfArr most base v)/\RowAt own t w v kept
theorem ShelfAt.upd{T:Nat->Prop}{own own':Own}{w w':World}{t p most base:Nat}{kept:List Ev}(h:ShelfAt own t w p most base kept)(hu:Upd T own own' w w')(ht:¬ T t):ShelfAt own' t w' p most base kept:=by
 obtain⟨h1,v,h2,h3⟩:=h;exact⟨by rw[hu.old p h2.lt];exact h1,v,h2.upd hu (by rw[h1];exact ht),h3.upd hu ht⟩
theorem Blk.three{w:World}{g:Nat}{t:TypeId}{v0 v1 v2:Value}(h:Blk w g t #[v0,v1,v2]):w.cell? ⟨g,0,none⟩=some v0/\w.cell? ⟨g,1,none⟩=some v1/\w.cell? ⟨g,2,none⟩=some v2 :=
 ⟨h.cell 0,h.cell 1,h.cell 2⟩
theorem ZpF(most:Nat)(w:World):Calls prog 130 #[.int .i64 most] w λ r w'=>r = .returned (.pointer (some ⟨w.heap.size,0,none⟩))/\Blk w' w.heap.size 281 (shelfArr most 0 (.slice none 0 0))/\Below w.heap.size w w':=by
 go_enter func130,ntmps130;go_wp2
 go_ret;exact⟨rfl,ZBn _ _ _,(ZW _ _).alloc (ZL _) _⟩
theorem Zog{own:Own}{t p most base:Nat}{kept:List Ev}{w:World}(h:ShelfAt own t w p most base kept):Calls prog 145 #[.pointer (some ⟨p,0,none⟩)] w (Zv (.int .i64 base) w):=by
 obtain⟨_,v,hb,hr⟩:=h;obtain⟨c0,c1,c2⟩:=hb.three;have ce:=hb.lt;clear hb hr;go_enter func145,ntmps145;go_wp2
 go_ret;exact⟨rfl,ZW _ _⟩
theorem Zdk{own:Own}{t p most base:Nat}{kept:List Ev}{w:World}(h:ShelfAt own t w p most base kept)(cD:base<=1000000)(hk:kept.length<=1000000):Calls prog 134 #[.pointer (some ⟨p,0,none⟩)] w (Zv (.int .i64 (base+kept.length:Nat)) w):=by
 obtain⟨_,v,hb,hr⟩:=h;obtain⟨a,cap,rfl,_⟩:=EvSl.ab hr.row;have HB:=ZH hb;have hw:IntKind.i64.wrap ((base:Int)+(kept.length:Int))=(base:Int)+(kept.length:Int):=by rw[IntKind.wrap_i64];omega
 clear hb hr;go_enter func134,ntmps134;go_wp2_with fail;refine ZSg (λ w'=>Blk w' p 281 (shelfArr most base (.slice a kept.length cap))) [(0,3),(1,0),(2,3),(3,0),(4,3),(5,0),(6,3),(7,0),(8,3),(9,3),(10,3)] (HB.out.drew) λ bR=>?_
 repeat((first | refine ZSa ?_ | refine ZSb ?_ | (refine Zf rfl (by rfl) (λ w' ci=>by obtain⟨c0,c1,c2⟩:=ci.three;go_simp;with_reducible rfl) ?_));simp only[Act.put,ZA,ZB,ZC])
 refine ZSf ?_;go_wp2
 go_ret;exact⟨ZM,(ZW _ _).drew⟩
def ZaW(n:Nat)(l:List Ev):List Ev:=l.filter λ e=>decide (n<e.n)
theorem Zmj(n:Nat)(l:List Ev)(e:Ev):ZaW n (l++[e])=ZaW n l++if n<e.n then [e] else []:=by
 unfold ZaW;rw[List.filter_append];by_cases h:n<e.n <;> simp[h]
theorem Zoi{own:Own}{t p most base:Nat}{kept:List Ev}{w:World}(h:ShelfAt own t w p most base kept)(n:Nat)(hk:kept.length<=1000000):Calls prog 176 #[.pointer (some ⟨p,0,none⟩),.int .i64 n] w (Zel (ZaW n kept) w):=by
 obtain⟨_,v,hb,hr⟩:=h;obtain⟨a,cap,rfl,hs⟩:=EvSl.ab hr.row;obtain⟨c0,c1,c2⟩:=hb.three;have ce:=hb.lt;obtain⟨i0,hi,cM,cG,cK⟩:=info_parts Zbv;have HS:=ZH hs;have HO:Hid (w.ownsRow w.heap.size 89 12 (.slice none 0 0) (ZaW n (kept.take 0)).length (evCells (ZaW n (kept.take 0)))):=ZH (⟨rfl,.inl ⟨rfl,rfl⟩⟩);have HK:=ZH (ZKr w);clear hb hr hs;go_enter func176,ntmps176;go_wp2_with fail;go_loopw [5,13] (λ v i wr=>∃ q:Nat,q<=kept.length/\i = .int .i64 q/\Hid (wr.ownsRow w.heap.size 89 12 v (ZaW n (kept.take q)).length (evCells (ZaW n (kept.take q))))/\Hid (Kept w.heap.size w wr)) (λ _ i _=>kept.length-(intOf i).toNat)
 case atStart=>exact⟨0,Nat.zero_le _,rfl,HO,HK⟩
 case round =>
  clear HO HK;obtain⟨q,hq,rfl,HO,HK⟩:=hrel;by_cases dy:q<kept.length
  ·obtain⟨e,he⟩:∃ e,kept[q]? = some e:=⟨_,ZX dy⟩;have hs:=HS.out.of_same (w':=wr) (λ ad _ hl=>HK.out.below.block _ hl) HK.out.le;obtain⟨bk,off,rfl,cQ,c0,c1,c2,c3,c4,c5,c6,c7,c8,c9,cP,cR⟩:=hs.at_ he;have it:=Zmj n (kept.take q) e;rw[←Zag he] at it;have eI:=ZH it;have rt:(ZaW n (kept.take q)).length<=1000000:=by
    have h1:=List.length_filter_le (λ e:Ev=>decide (n<e.n)) (kept.take q);rw[ZV] at h1;unfold ZaW;omega
   obtain⟨aa,eV,rfl,_⟩:=EvSl.ab HO.out;have cJ:=HK.out.alloc (.cells (evArr e) 89);have qE:=Ze HO.out ((ZW wr.heap.size wr).alloc (ZL _) (.cells (evArr e) 89));have cY:=cJ.alloc (.cells (evArr e) 89);have gV:=ZH (Ze qE ((ZW _ _).alloc (ZL _) (.cells (evArr e) 89)));have dQ:=cY.le;obtain⟨cr,jG,cC⟩:=ZH3 cJ qE cY;clear hs he it cJ qE cY;by_cases dz:n<e.n
   ·rw[if_pos dz] at eI;have ST:decide ((n:Int)<(e.n:Int))=true:=ZP;go_wp2_with (at_builtin;refine Zc _ rfl (.tmp 21) (.tmp 23) _ rfl w.heap.size 89 i0 _ 12 112 underlying128 hi cM cG cK rfl ZO (.slice aa (ZaW n (kept.take q)).length eV) (ZaW n (kept.take q)).length (evCells (ZaW n (kept.take q))) rfl gV.out (wr.heap.size+1+1) (some ⟨wr.heap.size+1,0,none⟩) 1 1 (evArr e).toList rfl (ZdR _ _ _) (ZaK e) ZF ZO dQ ?_;intro v7 w7 bX cN dP)
    have gM:w7.ownsRow w.heap.size 89 12 v7 (ZaW n (kept.take (q+1))).length (evCells (ZaW n (kept.take (q+1)))):=by rw[eI.out];exact RowE.snoc bX
    have fd:Hid (Kept w.heap.size w w7):=ZH (⟨cC.out.below.grown cN cC.out.le (λ g hg=>(Zb gV.out hg).1),ZT cC.out.le cN.size⟩);have gW:=ZH gM;go_roundw
    case rel=>exact⟨q+1,ZO,ZN,gW,fd⟩
    case measure=>simp[intOf];omega
   ·rw[if_neg dz,List.append_nil] at eI;have ST:decide ((n:Int)<(e.n:Int))=false:=ZP;go_wp2
    go_roundw
    case rel=>exact⟨q+1,ZO,ZN,by rw[eI.out];exact jG,cr⟩
    case measure=>simp[intOf];omega
  ·obtain rfl:q=kept.length:=ZO;rw[List.take_length] at HO;obtain⟨aa,eV,rfl,_⟩:=EvSl.ab HO.out;go_wp2
   go_ret;exact⟨_,rfl,HO.out,HK.out.below⟩
theorem Zh1(m:Nat)(hm:m<=1000000)(w:World):(Instr.makeSlice 128 (.int .i64 (m:Int)) (.int .i64 (m:Int))).run prog w = .ok (.slice (some ⟨w.heap.size,0,none⟩) m m) (w.alloc (.cells (madeCells Zj (m*12)) 89)):=by
 obtain⟨i0,hi,cM,cG,cK⟩:=info_parts Zbv;have h:=run_makeSlice (P:=prog) (w:=w) 128 89 i0 (.agg Zj) underlying128 hi cM .i64 .i64 (m:Int) (m:Int) ZO (Int.le_refl _) (by rw[cG];omega) (by rw[cK];omega) ZO;rw[cG] at h;simp only[Int.toNat_natCast] at h;exact h
theorem Zka{w:World}{m:Nat}{es:List Ev}(hm:m<=1000000)(hl:es.length=m):(setAll (w.alloc (.cells (madeCells Zj (m*12)) 89)) w.heap.size 0 (evCells es)).ownsRow w.heap.size 89 12 (.slice (some ⟨w.heap.size,0,none⟩) m m) es.length (evCells es):=by
 have hb:=ZBn w 89 (madeCells Zj (m*12));have dL:(madeCells Zj (m*12)).size=m*12:=size_madeCells _ _;have hs:=Zaw (vs:=(evCells es).toArray) hb (by rw[dL,List.size_toArray,Zao,hl]);refine⟨Zao es,.inr ⟨w.heap.size,m,_,by rw[hl],ZL _,hs,ZO,by unfold maxLen;omega,by rw[List.size_toArray,Zao,hl],?_⟩⟩;simp[ZU,Zao]
theorem EvSl.rest{w:World}{g off n cap:Nat}{es:List Ev}(h:EvSl w (some ⟨g,off,none⟩) n cap es){k:Nat}(hk:k<=n):EvSl w (some ⟨g,off+k*12,none⟩) (n-k) (cap-k) (es.drop k):=by
 obtain⟨h1,h2,h3,h4⟩:=h;refine⟨ZO,ZO,by rw[List.length_drop,h3],?_⟩;rcases h4 with h4 | ⟨b,o,hb,hl,hc⟩
 ·exact .inl ZO
 ·injection hb with hb
  injection hb with hb ho
  subst hb ho;refine .inr ⟨g,off+k*12,rfl,hl,λ i e he j hj=>?_⟩;rw[List.getElem?_drop] at he;have:=hc (k+i) e he j hj;rw[←this];congr 3;rw[Nat.add_mul];omega
theorem Zkm{own:Own}{t p most b0 B g m:Nat}{w W:World}{v0:Value}{es:List Ev}(hm:own p=t)(hf:Fresh own w)(hb:Blk W p 281 (shelfArr most b0 v0))(hk:Below w.heap.size w W)(hr:W.ownsRow g 89 12 (.slice (some ⟨g,0,none⟩) m m) es.length (evCells es))(hg:g<W.heap.size)(hp:p<w.heap.size)(MG:w.heap.size<=g):
  ∃ own',ShelfAt own' t ((W.setCell ⟨p,1,none⟩ (.int .i64 B)).setCell ⟨p,2,none⟩ (.slice (some ⟨g,0,none⟩) m m)) p most B es/\Upd (· = t) own own' w ((W.setCell ⟨p,1,none⟩ (.int .i64 B)).setCell ⟨p,2,none⟩ (.slice (some ⟨g,0,none⟩) m m)):=by
 have hu:=((ZUb (T:=(· = t)) hk hf).setCell (p:=⟨p,1,none⟩) (λ _=>hm) (.int .i64 B)).setCell (p:=⟨p,2,none⟩) (λ _=>hm) (.slice (some ⟨g,0,none⟩) m m)
 have AV:=hu.bt (v := .slice (some ⟨g,0,none⟩) m m) (λ g' h=>by
  injection h with h
  subst h
  exact⟨MG,by simpa [World.setCell] using hg⟩) t
 refine⟨_,⟨?_,_,(hb.ai 1 (.int .i64 B)).ai 2 (.slice (some ⟨g,0,none⟩) m m),?_,λ g' h=>?_⟩,AV⟩
 ·unfold Own.put;split
  ·rfl
  ·exact hm
 ·have dz:g≠p:=ZO
  exact Zi (Zh hr (λ g' h _=>by
   injection h with h
   subst h
   exact(Below.heap_setCell _ _ _ _ dz).trans (Below.heap_setCell _ _ _ _ dz))) (Nat.zero_le _)
 ·unfold Own.put;rw[if_pos h]
def Zbo(base len n:Nat):Nat:=max base (min n (base+len))
theorem ZpE{own:Own}{t p most base:Nat}{kept:List Ev}{w:World}(h:ShelfAt own t w p most base kept)(hf:Fresh own w)(n:Nat)(hk:kept.length<=1000000)(cD:base<=1000000):
  Calls prog 173 #[.pointer (some ⟨p,0,none⟩),.int .i64 n] w λ r w'=>r = .returned (.tuple #[])/\∃ own',ShelfAt own' t w' p most (Zbo base kept.length n) (kept.drop (Zbo base kept.length n-base))/\Upd (· = t) own own' w w':=by
 have h0:=h;obtain⟨fD,v,hb,hr⟩:=h;obtain⟨a,cap,rfl,hs⟩:=EvSl.ab hr.row;obtain⟨c0,c1,c2⟩:=hb.three;have ce:=hb.lt;obtain⟨B,hB⟩:∃ B,B=Zbo base kept.length n:=⟨_,rfl⟩;rw[←hB];have cW:base<=B:=by rw[hB];exact Nat.le_max_left _ _
 have dd:B<=base+kept.length:=by rw[hB];exact Nat.max_le.2 ⟨Nat.le_add_right _ _,Nat.min_le_right _ _⟩
 have lW:(if (base:Int)<(if base+kept.length<n then((base+kept.length:Nat):Int) else(n:Int)) then(if base+kept.length<n then((base+kept.length:Nat):Int) else(n:Int)) else(base:Int))=(B:Int):=by
  rw[hB];unfold Zbo;split <;> split <;> omega
 obtain⟨HH,HB,HR,HF,HM,HS⟩:=ZH6 h0 hb hr hf fD hs;clear h0 hb hr hf fD hs hB;obtain⟨L,hL⟩:∃ L,L=base+kept.length:=⟨_,rfl⟩;rw[←hL] at dd lW;have Kp:=ZH lW;clear lW;obtain⟨M,hM⟩:∃ M,M=L-B:=⟨_,rfl⟩;have lN:=Zh1 M ZO;obtain⟨HL,oU⟩:=ZH2 hL hM;have hwM:IntKind.i64.wrap ((L:Int)-(B:Int))=(M:Int):=by rw[IntKind.wrap_i64];omega
 clear hL hM;go_enter func173,ntmps173;go_wp2_with fail;refine ZSi [(0,3),(1,0),(2,3),(3,0),(4,3),(5,3),(6,1),(7,3),(8,3),(9,3)] λ bR=>?_
 repeat((first | refine ZSa ?_ | refine ZSb ?_ | refine ZSc ?_);simp only[Act.put,ZA,ZB,ZC])
 refine ZSd λ K hK=>?_
 go_simp;refine(Zdk (HH.out.upd (ZUb (T:=λ n=>n≠t) bR.below HF.out) (λ h=>h rfl)) cD hk).mono ?_;rintro r w1 ⟨rfl,bS⟩;rw[←HL.out];refine hK.out (λ w'=>Kept w.heap.size w w') _ _ (λ _ h=>h) (bR.step bS) (λ bT=>?_);clear hK K bR;repeat((first | refine ZSa ?_ | refine ZSb ?_ | refine ZSc ?_);simp only[Act.put,ZA,ZB,ZC])
 refine ZSf ?_;rw[Kp.out];generalize (if L<n then(L:Int) else(n:Int))=MI;have dE:=bT;have h1:=HH.out.upd (ZUb (T:=λ n=>n≠t) dE.below HF.out) (λ h=>h rfl);obtain⟨H1,cE⟩:=ZH2 h1 dE;clear h1 dE bT;go_wp2_with fail;refine(Zdk H1.out cD hk).mono ?_;rintro r w2 ⟨rfl,bW⟩;rw[←HL.out];have cr:=ZH (cE.out.step bW);clear bW;go_wp2_with fail;obtain⟨D,hD⟩:∃ D,D=B-base:=⟨_,rfl⟩;have hwD:IntKind.i64.wrap ((B:Int)-(base:Int))=(D:Int):=by have:=HL.out;rw[IntKind.wrap_i64];omega
 have Sl:D<=kept.length:=by have:=HL.out;omega
 have Ov:kept.length-D=M:=by have:=HL.out;have:=oU.out;omega
 have hD0:(0:Int)<=(D:Int):=ZO;have hDn:(D:Int)<=(kept.length:Int):=ZO;have hDc:(D:Int)<=(cap:Int):=by have:=HS.out.1;omega
 have So:M<=1000000:=ZO;obtain⟨HD,C3⟩:=ZH2 hD Ov;clear hD Ov lN;have eD:EvSl (w2.alloc (.cells (madeCells Zj (M*12)) 89)).drew a kept.length cap kept:=(HS.out.of_same (w':=w2) (λ ad _ hl=>cr.out.below.block _ hl) cr.out.le).below (((ZW _ _).alloc (ZL _) _).drew);have yD:=Zka (w:=w2) (m:=M) (es:=kept.drop D) So (by rw[List.length_drop];exact C3.out);have cY:Kept w.heap.size w (w2.alloc (.cells (madeCells Zj (M*12)) 89)):=cr.out.alloc _;have kO:=ZBn w2 89 (madeCells Zj (M*12));have dL:(madeCells Zj (M*12)).size=M*12:=size_madeCells _ _;have em:∀ (A:Option Addr) C ty,EvSl (w2.alloc (.cells (madeCells Zj (M*12)) 89)).drew A M C (kept.drop D)->(Builtin.copy_ #[128,128] ty #[.slice (some ⟨w2.heap.size,0,none⟩) M M,.slice A M C]).run prog (w2.alloc (.cells (madeCells Zj (M*12)) 89)).drew = .ok (goInt M) (setAll (w2.alloc (.cells (madeCells Zj (M*12)) 89)).drew w2.heap.size 0 (evCells (kept.drop D))):=by
  intro A C ty hA;obtain⟨i0,hi,cM,cG,cK⟩:=info_parts Zbv;have hl:(evCells (kept.drop D)).length=M*12:=by rw[Zao,hA.2.2.1]
  have iP:Nat.min M M=M:=Nat.min_self M
  have h:=ZdF (P:=prog) (w2.alloc (.cells (madeCells Zj (M*12)) 89)).drew 128 128 ty 89 i0 12 w2.heap.size 0 M M A M C (evCells (kept.drop D)) underlying128 hi cG (by rw[hl,iP]) (by rw[iP];exact hA.reads) (λ j hj=>by
   have hc:=kO.drew.cell j;rw[Nat.zero_add,hc,Array.getElem?_eq_getElem (by rw[dL];omega)]
   rfl) (λ j _=>by rw[Nat.zero_add];exact kO.drew.frozen j) (Zbi _)
  rw[iP] at h;exact h
 obtain⟨W4,m8⟩:∃ W4,W4=setAll (w2.alloc (.cells (madeCells Zj (M*12)) 89)).drew w2.heap.size 0 (evCells (kept.drop D)):=⟨_,rfl⟩;rw[←m8] at em;have o7:p<w2.heap.size:=ZR ce cr.out.le;have cz:Blk W4 p 281 (shelfArr most base (.slice a kept.length cap)):=by
  rw[m8];exact(Zaj ZO _ _ _).trans (HB.out.ob cY.drew.below)
 have dr:Kept w.heap.size w W4:=by
  rw[m8];exact ZaB cY.drew cr.out.le 0 _
 have yO:W4.ownsRow w2.heap.size 89 12 (.slice (some ⟨w2.heap.size,0,none⟩) M M) (kept.drop D).length (evCells (kept.drop D)):=by
  rw[m8,Zda];exact yD
 have Pv:w2.heap.size<W4.heap.size:=by
  rw[m8,ZaR];simp
 have f1:=cz.frozen 1;have f2:=cz.frozen 2;obtain⟨d0,d1,d2⟩:=cz.three;have pS:=cz.lt;obtain⟨iZ,iS,fK,cZ,fU,zP,qj⟩:=ZH7 eD em cz dr yO Pv m8;clear eD yD em kO dL m8 cz dr yO Pv;rcases a with _ | ⟨g,off,Tq⟩
 ·have cA:kept.length=0/\cap=0:=by
   rcases HR.out.row.2 with ⟨h1,_⟩|⟨_,_,_,h1,_⟩
   ·injection h1 with _ h1 h2
    exact⟨h1,h2⟩
   ·injection h1 with h1
    cases h1
  obtain⟨cA,rfl⟩:=cA;have AH:D=0:=ZO;subst AH;have wL:M=0:=by have:=C3.out;omega
  subst wL;have il:kept=[]:=List.eq_nil_of_length_eq_zero cA;subst il;clear iS;refine ZSg (λ w'=>Kept w.heap.size w w') [(0,3),(1,3),(2,0),(3,3),(4,0),(5,3),(6,3),(7,0),(8,3),(9,0),(10,3),(11,3),(12,2)] (cY.drew) λ bR=>?_
  repeat((first | refine ZSa ?_ | refine ZSb ?_ | refine ZSc ?_);simp only[Act.put,ZA,ZB,ZC])
  refine ZSe λ K hK=>?_
  go_simp;refine hK.out _ _ ?_;clear hK K;refine ZSf ?_;first | rw[show(w2.alloc (.cells (madeCells Zj 0) 89)).drew=W4 from qj.out.symm] | rw[show(w2.alloc (.cells (madeCells Zj (0*12)) 89)).drew=W4 from qj.out.symm]
  go_wp2_with fail;go_end0
  rw[←HD.out];exact⟨rfl,Zkm HM.out HF.out fK.out cZ.out.below fU.out zP.out ce cr.out.le⟩
 ·obtain⟨rfl,rfl⟩:off=0/\Tq=none:=by
   rcases HR.out.row.2 with ⟨h1,_⟩|⟨_,_,_,h1,_⟩
   ·injection h1 with h1
    cases h1
   ·injection h1 with h1
    injection h1 with h1
    injection h1 with _ h1 h2
    exact⟨h1,h2⟩
  have Mw:=iZ.out.rest (k:=D) Sl;rw[C3.out,Nat.zero_add] at Mw;have em:∀ ty,(Builtin.copy_ #[128,128] ty #[.slice (some ⟨w2.heap.size,0,none⟩) M M,.slice (if cap=D then some ⟨g,0,none⟩ else some ⟨g,D*12,none⟩) (kept.length-D) (cap-D)]).run prog (w2.alloc (.cells (madeCells Zj (M*12)) 89)).drew = .ok (goInt M) W4:=by
   intro ty;rw[C3.out];by_cases OR:cap=D
   ·rw[if_pos OR];have h1:=HS.out.1;have h2:=C3.out;have Im:M=0:=ZO;exact iS.out _ _ ty ⟨ZO,by have:=HS.out.2.1;omega,by rw[List.length_drop];omega,.inl Im⟩
   ·rw[if_neg OR];exact iS.out _ _ ty Mw
  have Rw:=ZH (em 3);clear em Mw;refine ZSg (λ w'=>Kept w.heap.size w w') [(0,3),(1,3),(2,0),(3,3),(4,0),(5,3),(6,3),(7,0),(8,3),(9,0),(10,3),(11,3),(12,2)] (cY.drew) λ bR=>?_
  repeat((first | refine ZSa ?_ | refine ZSb ?_ | refine ZSc ?_);simp only[Act.put,ZA,ZB,ZC])
  refine ZSe λ K hK=>?_
  go_simp;rw[Rw.out];refine hK.out _ _ ?_;clear hK K;refine ZSf ?_;go_wp2_with fail
  all_goals
   go_end0
   rw[←HD.out];exact⟨rfl,Zkm HM.out HF.out fK.out cZ.out.below fU.out zP.out ce cr.out.le⟩
structure Sh where
 base:Nat
 kept:List Ev
def clkCells(l:List Clk):List Value:=l.flatMap λ c=>(clkArr c).toList
theorem Zb9:∀ l:List Clk,(clkCells l).length=l.length*5
 | []=>rfl
 | c::l=>by
  have h:=Zb9 l;have e:clkCells (c::l)=(clkArr c).toList++clkCells l:=rfl;rw[e,ZI,h];simp;omega
theorem ZgR:∀ (l:List Clk) (i j:Nat) (c:Clk),l[i]? = some c->j<5->(clkCells l)[i*5+j]? = (clkArr c)[j]?
 | [],i,j,c,h,_=>by simp at h
 | x::l,0,j,c,h,hj=>by
  have e:clkCells (x::l)=(clkArr x).toList++clkCells l:=rfl;have hx:x=c:=by simpa using h
  subst hx;rw[e,Nat.zero_mul,Nat.zero_add,List.getElem?_append_left (by simpa using hj),Array.getElem?_toList]
 | x::l,i+1,j,c,h,hj=>by
  have e:clkCells (x::l)=(clkArr x).toList++clkCells l:=rfl;rw[e,List.getElem?_append_right ZP];have:=ZgR l i j c (by simpa using h) hj;rw[←this];congr 1;simp;omega
structure PostAt(own:Own)(t:Nat)(w:World)(p:Nat)(most:Nat)(sh:List Sh)(told:List Clk):Prop where
 mine:own p=t
 len:told.length=sh.length
 ex:∃ gs cap gt cs,Blk w p 243 #[.slice (some ⟨gs,0,none⟩) sh.length cap,.slice (some ⟨gt,0,none⟩) sh.length sh.length]/\own gs=t/\own gt=t/\sh.length<=cap/\Blk w gs 244 cs/\Blk w gt 44 (clkCells told).toArray /\
  ∀ i s,sh[i]? = some s->∃ q,cs[i]? = some (.pointer (some ⟨q,0,none⟩))/\ShelfAt own (t+1+i) w q most s.base s.kept
theorem PostAt.upd{T:Nat->Prop}{own own':Own}{w w':World}{t p most:Nat}{sh:List Sh}{told:List Clk}(h:PostAt own t w p most sh told)(hu:Upd T own own' w w')(ht:∀ i,i<=sh.length->¬ T (t+i)):PostAt own' t w' p most sh told:=by
 obtain⟨h1,h2,gs,cap,gt,cs,h3,h4,h5,h6,h7,h8,h9⟩:=h;have h0:¬ T t:=ht 0 (Nat.zero_le _);refine⟨by rw[hu.old p h3.lt];exact h1,h2,gs,cap,gt,cs,h3.upd hu (by rw[h1];exact h0),by rw[hu.old gs h7.lt];exact h4,by rw[hu.old gt h8.lt];exact h5,h6,h7.upd hu (by rw[h4];exact h0),h8.upd hu (by rw[h5];exact h0),λ i s hs=>?_⟩;obtain⟨q,kW,kn⟩:=h9 i s hs;have hi:=(ZZ.1 hs).1;exact⟨q,kW,kn.upd hu (by rw[Nat.add_assoc];exact ht (1+i) ZO)⟩
theorem PostAt.one{own:Own}{w:World}{t p most r:Nat}{sh:List Sh}{told:List Clk}(h:PostAt own t w p most sh told){s:Sh}(hs:sh[r]? = some s):
  ∃ gs cap gt cs q,Blk w p 243 #[.slice (some ⟨gs,0,none⟩) sh.length cap,.slice (some ⟨gt,0,none⟩) sh.length sh.length]/\Blk w gs 244 cs/\Blk w gt 44 (clkCells told).toArray/\cs[r]? = some (.pointer (some ⟨q,0,none⟩))/\ShelfAt own (t+1+r) w q most s.base s.kept/\sh.length<=cap /\
  ∀ own' w' s',Upd (· = t+1+r) own own' w w'->ShelfAt own' (t+1+r) w' q most s'.base s'.kept->PostAt own' t w' p most (sh.set r s') told/\Blk w' p 243 #[.slice (some ⟨gs,0,none⟩) sh.length cap,.slice (some ⟨gt,0,none⟩) sh.length sh.length]/\Blk w' gs 244 cs:=by
 obtain⟨h1,h2,gs,cap,gt,cs,h3,h4,h5,h6,h7,h8,h9⟩:=h;obtain⟨q,kW,kn⟩:=h9 r s hs;refine⟨gs,cap,gt,cs,q,h3,h7,h8,kW,kn,h6,λ own' w' s' hu hn=>?_⟩;have h0:¬ (t=t+1+r):=ZO;have hr:=(ZZ.1 hs).1;refine⟨⟨by rw[hu.old p h3.lt];exact h1,by rw[List.length_set];exact h2,gs,cap,gt,cs,by rw[List.length_set];exact h3.upd hu (by rw[h1];exact h0),by rw[hu.old gs h7.lt];exact h4,by rw[hu.old gt h8.lt];exact h5,by rw[List.length_set];exact h6,h7.upd hu (by rw[h4];exact h0),h8.upd hu (by rw[h5];exact h0),λ i x hx=>?_⟩,h3.upd hu (by rw[h1];exact h0),h7.upd hu (by rw[h4];exact h0)⟩;by_cases O9:r=i
 ·subst O9;rw[List.getElem?_set_self hr] at hx;injection hx with hx;subst hx;exact⟨q,kW,hn⟩
 ·rw[List.getElem?_set_ne O9] at hx;obtain⟨q',Mg,Mh⟩:=h9 i x hx;exact⟨q',Mg,Mh.upd hu ZO⟩
theorem PostAt.bE{own:Own}{w:World}{t p most:Nat}{sh:List Sh}{told:List Clk}(h:PostAt own t w p most sh told):p<w.heap.size:=by
 obtain⟨h1,h2,gs,cap,gt,cs,h3,_⟩:=h;exact h3.lt
theorem Blk.two{w:World}{g:Nat}{t:TypeId}{v0 v1:Value}(h:Blk w g t #[v0,v1]):w.cell? ⟨g,0,none⟩=some v0/\w.cell? ⟨g,1,none⟩=some v1:=⟨h.cell 0,h.cell 1⟩
theorem Blk.aC{w:World}{g:Nat}{t:TypeId}{l:List Clk}(h:Blk w g t (clkCells l).toArray){i:Nat}{c:Clk}(hc:l[i]? = some c){j:Nat}(hj:j<5):w.cell? ⟨g,i*5+j,none⟩=some (.int .i64 (c.get j)):=by
 rw[h.cell,ZD,ZgR l i j c hc hj];exact ZdY c hj
theorem Zij{own:Own}{t p most:Nat}{sh:List Sh}{told:List Clk}{w:World}(h:PostAt own t w p most sh told)(r:Nat):Calls prog 131 #[.pointer (some ⟨p,0,none⟩),.int .i64 r] w (Zv (.bool (decide (r<sh.length))) w):=by
 obtain⟨h1,h2,gs,cap,gt,cs,h3,h4,h5,h6,h7,h8,h9⟩:=h;obtain⟨c0,c1⟩:=h3.two;have ce:=h3.lt;have h0:(0:Int)<=(r:Int):=ZO;have HB:=ZH h3;clear h9 h7 h8 h3;go_enter func131,ntmps131;go_wp2
 go_ret;exact⟨ZM,ZW _ _⟩
def Zbw(told:List Clk)(s:Nat):Nat:=told.foldl (λ m c=>min m (c.get s)) ((told.headD ZCz).get s)
def cutSh(told:List Clk)(s:Nat)(x:Sh):Sh:=⟨Zbo x.base x.kept.length (Zbw told s),x.kept.drop (Zbo x.base x.kept.length (Zbw told s)-x.base)⟩
theorem Znu{α : Type}{l:List α}{k:Nat}{a : α}(h:l[k]? = some a){β : Type}(f : β -> α -> β)(b : β):(l.take (k+1)).foldl f b=f ((l.take k).foldl f b) a:=by
 rw[List.take_add_one,h,List.foldl_append];rfl
theorem Zlz{own:Own}{t p most:Nat}{sh:List Sh}{told:List Clk}{w:World}(h:PostAt own t w p most sh told)(hf:Fresh own w)(hN:sh.length<=5)(s:Nat){x:Sh}(hx:sh[s]? = some x)(hk:x.kept.length<=1000000)(cD:x.base<=1000000):
  Calls prog 133 #[.pointer (some ⟨p,0,none⟩),.int .i64 s] w λ r w'=>r = .returned (.tuple #[])/\∃ own',PostAt own' t w' p most (sh.set s (cutSh told s x)) told/\Upd (· = t+1+s) own own' w w':=by
 have eD:s<sh.length:=(ZZ.1 hx).1;have h2:=h.len;obtain⟨gs,cap,gt,cs,q,h3,h7,h8,kW,kn,h6,dA⟩:=h.one hx;obtain⟨c0,c1⟩:=h3.two;have ce:=h3.lt;obtain⟨f,qr⟩:∃ f,told[0]? = some f:=⟨_,ZX ZO⟩;have dW:=h8.aC qr (j:=s) ZO;rw[Nat.zero_mul,Nat.zero_add] at dW;have LX:=h8.lt;have LW:=h7.lt;have rL:=h7.cell s;rw[kW] at rL;have fx:(0:Int)<=(s:Int):=ZO;have ny:(s:Int)<5:=ZO;have nV:(s:Int)<(sh.length:Int):=ZO;have eL:(0:Int)<(sh.length:Int):=ZO;obtain⟨M,hM⟩:∃ M:Nat->Nat,M=λ k=>(told.take k).foldl (λ m c=>min m (c.get s)) (f.get s):=⟨_,rfl⟩
 have Im:f.get s=M 0:=by rw[hM];rfl
 have Ow:M sh.length=Zbw told s:=by
  rw[hM];unfold Zbw;simp only[];rw[←h2,List.take_length];congr 1;rw[List.headD_eq_head?_getD,List.head?_eq_getElem?,qr];rfl
 obtain⟨HF,HB,HT,HS,HX,HQ,HM,Ri,HK⟩:=ZH9 hf h3 h8 h7 hx kn hM Ow (ZKr w);obtain⟨H2,HO⟩:=ZH2 h2 dA;rw[Im] at dW;clear h h7 h8 h3 hf hx kn hM Ow Im h2 kW dA;go_enter func133,ntmps133;go_wp2_with fail;go_loopw [4,20] (λ m i wr=>∃ k:Nat,k<=sh.length/\i = .int .i64 k/\m = .int .i64 (M k)/\Hid (Kept w.heap.size w wr)) (λ _ i _=>sh.length-(intOf i).toNat)
 case atStart=>exact⟨0,ZO,rfl,rfl,HK⟩
 case round =>
  clear HK;obtain⟨k,jB,rfl,rfl,HK⟩:=hrel;by_cases il:k<sh.length
  ·obtain⟨c,hc⟩:∃ c,told[k]? = some c:=⟨_,ZX (by rw[H2.out];exact il)⟩;have hT:=HT.out.ob HK.out.below;have d0:=hT.aC hc (j:=0) ZO;have d1:=hT.aC hc (j:=1) ZO;have d2:=hT.aC hc (j:=2) ZO;have d3:=hT.aC hc (j:=3) ZO;have d4:=hT.aC hc (j:=4) ZO;simp only[Nat.add_zero,Clk.get] at d0 d1 d2 d3 d4;have Fe:=hT.lt;have e:=ZmS wr c (i:=s) ZO;have wN:(if c.get s<M k then(c.get s:Int) else(M k:Int))=((M (k+1):Nat):Int):=by
    have:M (k+1)=min (M k) (c.get s):=by rw[HM.out];exact Znu hc _ _
    rw[this];split <;> omega
   have jC:(k:Int)<(sh.length:Int):=ZO;have cA:(0:Int)<=(k:Int):=ZO;have cr:=ZH (HK.out.alloc (.cells (clkArr c) 44));clear hT hc HK;go_wp2
   go_roundw
   case rel=>exact⟨k+1,ZO,ZN,by first | rfl | exact congrArg (Value.int .i64) wN | exact congrArg (Value.int .i64) (by have h:=wN;split at h <;> omega),cr⟩
   case measure=>simp[intOf];omega
  ·obtain rfl:k=sh.length:=ZO;have hB:=HB.out.ob HK.out.below;obtain⟨d0,d1⟩:=hB.two;have rD:=hB.lt;have hS:=HS.out.ob HK.out.below;have dq:=hS.cell s;have hltS:=hS.lt;rw[show cs[s]? = some (.pointer (some ⟨q,0,none⟩)) by rw[←HS.out.cell s];exact rL] at dq;obtain⟨J4,hu⟩:=ZH2 (HQ.out.upd (ZUb (T:=λ n=>n≠t+1+s) HK.out.below HF.out) (λ h=>h rfl)) (ZUb (T:=(· = t+1+s)) HK.out.below HF.out);clear hS hB rL;go_wp2_with fail;refine(ZpE J4.out hu.out.fresh (M sh.length) hk cD).mono ?_;rintro r w2 ⟨rfl,cg,i6,cm⟩;rw[Ri.out] at i6;obtain⟨BQ,dc⟩:=ZH2 i6 (hu.out.trans cm);clear i6 cm;go_wp2_with fail;go_end0
   exact⟨rfl,cg,(HO.out cg w2 (cutSh told s x) dc.out BQ.out).1,dc.out⟩
theorem Blk.row{w:World}{g:Nat}{t:TypeId}{cs:Array Value}(h:Blk w g t cs)(vM:Array Value):Blk (w.setRow g vM) g t vM:=setRow_heap w g cs vM t (0,0) h
theorem Kept.row{B:Nat}{w w':World}(h:Kept B w w'){g:Nat}(hg:B<=g)(cs:Array Value):Kept B w (w'.setRow g cs):=⟨⟨h.below.os,h.below.tape,h.below.output,by rw[setRow_size];exact h.below.size,λ k hk=>(setRow_other _ _ _ _ ZO).trans (h.below.block k hk)⟩,by rw[setRow_size];exact h.le⟩
theorem Blk.aP{w:World}{g k:Nat}{t:TypeId}{cs:Array Value}(h:Blk w k t cs)(hk:k≠g)(vM:Array Value):Blk (w.setRow g vM) k t cs:=(setRow_other w g k vM hk).trans h
theorem Zsu:(prog.info? 44).map (λ i=>i.size)=some 5:=ZK
def ZbQ(f:Sh->Nat)(sh:List Sh):Nat->Clk
 | 0=>ZCz
 | k+1=>(ZbQ f sh k).set k (match sh[k]? with | some s=>f s | none=>0)
theorem Zkh{own:Own}{t p most:Nat}{sh:List Sh}{told:List Clk}{w:World}(h:PostAt own t w p most sh told)(hf:Fresh own w)(hN:sh.length<=5)(fn:Nat)(SF:fn=134∨fn=145)(f:Sh->Nat)
  (qu:∀ q s w tt,s∈sh->ShelfAt own tt w q most s.base s.kept->Calls prog fn #[.pointer (some ⟨q,0,none⟩)] w (Zv (.int .i64 (f s)) w)) :
  Calls prog 144 #[.pointer (some ⟨p,0,none⟩),.func (.func fn) #[] #[]] w (Zv (Za2 (ZbQ f sh sh.length)) w):=by
 obtain⟨HK,HA⟩:=ZH2 (((ZKr w).alloc (.cells (clkArr ZCz) 44)).alloc (.cells (clkArr ZCz) 44)) ((ZBn w 44 (clkArr ZCz)).alloc (.cells (clkArr ZCz) 44));have HB:Hid (Blk ((w.alloc (.cells (clkArr ZCz) 44)).alloc (.cells (clkArr ZCz) 44)) (w.heap.size+1) 44 (clkArr (ZbQ f sh 0))):=ZH (Z6 w _ _ _);obtain⟨g1,g2,gs,s8,gt,cs,h3,g4,g5,h6,h7,h8,h9⟩:=h;obtain⟨c0,c1⟩:=h3.two;have ce:=h3.lt;obtain⟨HG,H9,HF,Jl⟩:=ZH4 h7 h9 hf qu;clear hf qu h3 h7 h8 h9 g1 g2 g4 g5;go_enter func144,ntmps144;go_wp2_with fail;go_loopw [13] (λ i wr=>∃ k:Nat,k<=sh.length/\i = .int .i64 k/\Hid (Blk wr w.heap.size 44 (clkArr ZCz))/\Hid (Blk wr (w.heap.size+1) 44 (clkArr (ZbQ f sh k)))/\Hid (Kept w.heap.size w wr)) (λ i _=>sh.length-(intOf i).toNat)
 case atStart=>exact⟨0,ZO,rfl,HA,HB,HK⟩
 case round =>
  clear HA HB HK;obtain⟨k,jB,rfl,HA,HB,HK⟩:=hrel;by_cases il:k<sh.length
  ·obtain⟨x,hx⟩:∃ x,sh[k]? = some x:=⟨_,ZX il⟩;obtain⟨q,kW,kn⟩:=H9.out k x hx;have hG:=HG.out.ob HK.out.below;have rL:=hG.cell k;rw[kW] at rL;have Fe:=hG.lt;have jC:(k:Int)<(sh.length:Int):=ZO;have cA:(0:Int)<=(k:Int):=ZO;have ef:(k:Int)<5:=ZO;have fq:Hid (ZbQ f sh (k+1)=(ZbQ f sh k).set k (f x)):=ZH (by rw[ZbQ,hx]);obtain⟨BG,HQ⟩:=ZH2 (ZY hx) (kn.upd (ZUb (T:=λ _=>False) HK.out.below HF.out) (λ h=>h));clear hx kW kn hG;rcases SF with rfl | rfl
   all_goals
    go_wp2_with fail;refine(Jl.out q x _ _ BG.out HQ.out).mono ?_;rintro _ w3 ⟨rfl,bZ⟩;have hb:=HB.out.ob bZ;have ha:=HA.out.ob bZ;have cY:=HK.out.step bZ;have cb:=hb.clk (i:=k) ZO;have fr:=hb.frozen k;have rD:=hb.lt;have bW:=hb.ai k (.int .i64 ((f x:Nat):Int));rw[ZeJ _ ZO] at bW;have nM:=ha.far (p:=⟨w.heap.size+1,k,none⟩) (by show w.heap.size≠w.heap.size+1;omega) (.int .i64 ((f x:Nat):Int));have dr:=cY.setCell (p:=⟨w.heap.size+1,k,none⟩) (by show w.heap.size<=w.heap.size+1;omega) (.int .i64 ((f x:Nat):Int));obtain⟨cH,pi,cZ⟩:=ZH3 bW nM dr;clear hb ha cY bW nM dr bZ rL;go_wp2
    go_roundw
    case rel=>exact⟨k+1,ZO,ZN,pi,by rw[fq.out];exact cH,cZ⟩
    case measure=>simp[intOf];omega
  ·obtain rfl:k=sh.length:=ZO;obtain⟨d0,d1,d2,d3,d4⟩:=HB.out.aE;have fo:=HA.out.frozen;have f0:=fo 0;have f1:=fo 1;have f2:=fo 2;have f3:=fo 3;have f4:=fo 4;obtain⟨e0,e1,e2,e3,e4⟩:=HA.out.aE;clear fo;go_wp2_with fail;have dx:=Zaw (vs:=clkArr (ZbQ f sh sh.length)) HA.out rfl;have rB:=ZaB HK.out (g:=w.heap.size) (ZL _) 0 (clkArr (ZbQ f sh sh.length)).toList;refine bodyPost_end (w:=setAll wr w.heap.size 0 (clkArr (ZbQ f sh sh.length)).toList) (Zac rfl rfl (run_loadVar_row _ _ _ _ _ _ _ dx underlying44 rfl ZK)) rfl ?_;exact⟨rfl,rB.below⟩
def From1(n0:Nat)(l:List Ev):Prop:=∀ i e,l[i]? = some e->e.n=n0+i
def Z1(most base:Nat)(kept l:List Ev):Nat × List Ev :=
 let l':=l.filter λ e=>decide (base+kept.length<e.n)
 if l'.length=0 then(0,kept) else if most<kept.length+l'.length then(21,kept) else(0,kept++l')
theorem Zi8{g:Nat}:∀ (xs ys:List Value) (i:Nat) (w:World),setAll (setAll w g i xs) g (i+xs.length) ys=setAll w g i (xs++ys)
 | [],ys,i,w=>by simp[setAll]
 | x::xs,ys,i,w=>by
  have h:=Zi8 (g:=g) xs ys (i+1) (w.setCell ⟨g,i,none⟩ x);simp only[setAll,List.cons_append,List.length_cons];rw[←h,show i+(xs.length+1)=i+1+xs.length by omega]
theorem Zoh{own:Own}{t p most b0 g m:Nat}{w W:World}{v0:Value}{es:List Ev}(hm:own p=t)(hf:Fresh own w)(hb:Blk W p 281 (shelfArr most b0 v0))(hk:Below w.heap.size w W)(hr:W.ownsRow g 89 12 (.slice (some ⟨g,0,none⟩) m m) es.length (evCells es))(hg:g<W.heap.size)(hp:p<w.heap.size)(MG:w.heap.size<=g):
  ∃ own',ShelfAt own' t (W.setCell ⟨p,2,none⟩ (.slice (some ⟨g,0,none⟩) m m)) p most b0 es/\Upd (· = t) own own' w (W.setCell ⟨p,2,none⟩ (.slice (some ⟨g,0,none⟩) m m)):=by
 have hu:=(ZUb (T:=(· = t)) hk hf).setCell (p:=⟨p,2,none⟩) (λ _=>hm) (.slice (some ⟨g,0,none⟩) m m)
 have AV:=hu.bt (v := .slice (some ⟨g,0,none⟩) m m) (λ g' h=>by
  injection h with h
  subst h
  exact⟨MG,by simpa [World.setCell] using hg⟩) t
 refine⟨_,⟨?_,_,hb.ai 2 (.slice (some ⟨g,0,none⟩) m m),?_,λ g' h=>?_⟩,AV⟩
 ·unfold Own.put;split
  ·rfl
  ·exact hm
 ·have dz:g≠p:=ZO
  exact Zi (Zh hr (λ g' h _=>by
   injection h with h
   subst h
   exact Below.heap_setCell _ _ _ _ dz)) (Nat.zero_le _)
 ·unfold Own.put;rw[if_pos h]
theorem Zf8{n0:Nat}{l:List Ev}(h:From1 n0 l)(m:Nat):(l.filter λ e=>decide (m<e.n))=l.drop (m+1-n0):=by
 induction l generalizing n0 with
 | nil=>simp
 | cons x l ih =>
  have h0:x.n=n0:=h 0 x rfl;have hr:From1 (n0+1) l:=λ i e he=>by
   have:=h (i+1) e (by simpa using he);omega
  have ih:=ih hr;by_cases hx:m<x.n
  ·have e1:m+1-n0=0:=ZO;have e2:m+1-(n0+1)=0:=ZO;rw[e2,List.drop_zero] at ih;rw[e1,List.drop_zero,List.filter_cons_of_pos (by simpa using hx),ih]
  ·have e1:m+1-n0=(m+1-(n0+1))+1:=ZO;rw[e1,List.drop_succ_cons,List.filter_cons_of_neg (by simpa using hx),ih]
theorem ZpG{own:Own}{t p most base:Nat}{kept:List Ev}{w:World}(h:ShelfAt own t w p most base kept)(hf:Fresh own w)(hk:kept.length<=1000000)(cD:base<=1000000)(wL:most<=1000000){a:Option Addr}{n cap:Nat}{l:List Ev}(hs:EvSl w a n cap l)(hn:n<=1000000)(n0:Nat)(hl:From1 n0 l)(fJ:n0<=base+kept.length+1):
  Calls prog 132 #[.pointer (some ⟨p,0,none⟩),.slice a n cap] w λ r w'=>r = .returned (.int .i64 (Z1 most base kept l).1)/\∃ own',ShelfAt own' t w' p most base (Z1 most base kept l).2/\Upd (· = t) own own' w w':=by
 have hlen:=hs.2.2.1;obtain⟨H,HF,HS,HL,fE,HK⟩:=ZH6 h hf hs hl hlen (ZKr w);obtain⟨L,hL⟩:∃ L,L=base+kept.length:=⟨_,rfl⟩;have gv:=ZH hL;rw[←hL] at fJ;have hL9:L<=2000000:=ZO;clear h hf hs hl hL hlen;go_enter func132,ntmps132;go_wp2_with fail;go_loopw [11] (λ i wr=>∃ q:Nat,q<=n/\i = .int .i64 q/\Hid (Kept w.heap.size w wr)) (λ i _=>n-(intOf i).toNat)
 case atStart=>exact⟨0,ZO,rfl,HK⟩
 case round =>
  clear HK;obtain⟨q,hq,rfl,HK⟩:=hrel;by_cases dy:q<n
  ·obtain⟨e,he⟩:∃ e,l[q]? = some e:=⟨_,ZX (by rw[fE.out];exact dy)⟩;have kG:=HL.out q e he;have hs:=HS.out.of_same (w':=wr) (λ ad _ hl=>HK.out.below.block _ hl) HK.out.le;obtain⟨bk,off,rfl,cQ,c0,c1,c2,c3,c4,c5,c6,c7,c8,c9,cP,cR⟩:=hs.at_ he;have uq:=ZH kG;have bS:=(ZW wr.heap.size wr).alloc (ZL _) (.cells (evArr e) 89);have dE:=HK.out.alloc (.cells (evArr e) 89);have hx:=ZBn wr 89 (evArr e);have i6:=H.out.upd (ZUb (T:=λ n=>n≠t) dE.below HF.out) (λ h=>h rfl);have gp:=hx.lt;obtain⟨x0,x1,x2,x3,x4,x5,x6,x7,x8,x9,eE,eG⟩:=hx.ae;obtain⟨cE,HX,BQ⟩:=ZH3 dE hx i6;clear hs he kG dE hx i6 bS;rcases Nat.eq_zero_or_pos q with rfl | Pu
   ·simp only[Nat.zero_mul,Nat.add_zero] at c0 c1 c2 c3 c4 c5 c6 c7 c8 c9 cP cR;have hwL:IntKind.i64.wrap ((L:Int)+1)=(L:Int)+1:=by rw[IntKind.wrap_i64];omega
    have yq:decide (((L:Int)+1)<(e.n:Int))=false:=by have:=uq.out;simp;omega
    go_wp2_with fail;clear c0 c1 c2 c3 c4 c5 c6 c7 c8 c9 cP cR;generalize wr.alloc (.cells (evArr e) 89)=W at *;refine ZSi [(0,3),(1,3),(2,3),(3,3),(4,0),(5,3),(6,1),(7,3),(8,3),(9,3),(10,3),(11,3),(12,3),(13,3),(14,3),(15,0),(16,3),(17,3),(18,3),(19,3),(20,3),(21,0),(22,3),(23,3),(24,3),(25,3)] λ bR=>?_
    repeat((first | refine ZSa ?_ | refine ZSb ?_ | refine ZSc ?_);simp only[Act.put,ZA,ZB,ZC])
    refine ZSd λ K hK=>?_
    go_simp;refine(Zdk (BQ.out.upd (ZUb (T:=λ n=>n≠t) bR.below (ZUb (T:=λ n=>n≠t) cE.out.below HF.out).fresh) (λ h=>h rfl)) cD hk).mono ?_;rintro r w1 ⟨rfl,bS⟩;rw[←gv.out];have cJ:=bR.step bS;refine hK.out (λ w'=>Kept W.heap.size W w') _ _ (λ _ h=>h) cJ (λ bT=>?_);clear hK K bR;repeat((first | refine ZSa ?_ | refine ZSb ?_ | refine ZSc ?_);simp only[Act.put,ZA,ZB,ZC])
    refine ZSf ?_;have cr:=ZH (cE.out.trans cJ cE.out.le);clear bT cJ bS;go_wp2
    go_roundw
    case rel=>exact⟨0+1,ZO,ZN,cr⟩
    case measure=>simp[intOf];omega
   ·obtain⟨e',ym⟩:∃ e',l[q-1]? = some e':=⟨_,ZX (by rw[fE.out];omega)⟩;have Lr:=HL.out (q-1) e' ym;have Ls:(e.n:Int)=(e'.n:Int)+1:=by have:=uq.out;omega
    have Px:=(HS.out.of_same (w':=wr.alloc (.cells (evArr e) 89)) (λ ad _ hl=>cE.out.below.block _ hl) cE.out.le);obtain⟨bk',MM,nf,hbl',_,d1,_⟩:=Px.at_ ym;injection nf with nf;injection nf with Lg Lh;subst Lg Lh;have lM:((q:Int)-1).toNat=q-1:=ZO;have wL:(0:Int)<=(q:Int)-1:=ZO;have jh:(q:Int)-1<(n:Int):=ZO;have kn:(1:Int)<=(q:Int):=ZO;have hwq:IntKind.i64.wrap ((q:Int)-1)=(q:Int)-1:=by rw[IntKind.wrap_i64];omega
    have S6:IntKind.i64.wrap ((e'.n:Int)+1)=(e.n:Int):=by rw[IntKind.wrap_i64];omega
    have kW:((q:Int)==0)=false:=ZP;clear ym Px Ls Lr;go_wp2_with fail;clear c0 c1 c2 c3 c4 c5 c6 c7 c8 c9 cP cR;generalize wr.alloc (.cells (evArr e) 89)=W at *;refine ZSi [(0,3),(1,3),(2,3),(3,3),(4,0),(5,3),(6,1),(7,3),(8,3),(9,3),(10,3),(11,3),(12,3),(13,3),(14,3),(15,0),(16,3),(17,3),(18,3),(19,3),(20,3),(21,0),(22,3),(23,3),(24,3),(25,3)] λ bR=>?_
    repeat((first | refine ZSa ?_ | refine ZSb ?_ | refine ZSc ?_);simp only[Act.put,ZA,ZB,ZC])
    refine ZSf ?_;have cr:=ZH cE.out.drew;clear bR;go_wp2
    go_roundw
    case rel=>exact⟨q+1,ZO,ZN,cr⟩
    case measure=>simp[intOf];omega
  ·obtain rfl:q=n:=ZO;have kU:=HK.out
   go_wp2_with (first
    |(go_loopw [1] (λ v j5=>∃ (j:Nat) (A:Option Addr) (C:Nat),j<=q/\v = .slice A (q-j) C/\(j=0∨n0+j<=L+1)/\Hid (EvSl j5 A (q-j) C (l.drop j))/\Hid (Kept w.heap.size w j5)) (λ v _=>match v with | .slice _ k _=>k | _=>0)))
   case atStart =>
    refine⟨0,a,cap,Nat.zero_le _,rfl,.inl rfl,?_,HK⟩;exact ZH (HS.out.of_same (w':=wr) (λ ad _ hl=>HK.out.below.block _ hl) HK.out.le)
   case round =>
    obtain⟨j,A,C,hj,rfl,uH,HA,cr⟩:=hrel;have i6:=H.out.upd (ZUb (T:=λ n=>n≠t) cr.out.below HF.out) (λ h=>h rfl);have BQ:=ZH i6;clear i6;have yy:(l.drop j).length=q-j:=by rw[List.length_drop,fE.out]
    by_cases Pa:j<q
    ·obtain⟨e,he⟩:∃ e,(l.drop j)[0]? = some e:=⟨_,ZX (by rw[yy];omega)⟩;have kG:=HL.out j e (by rw[List.getElem?_drop] at he;exact he);obtain⟨bk,off,rfl,cQ,c0,c1,c2,c3,c4,c5,c6,c7,c8,c9,cP,cR⟩:=HA.out.at_ he;simp only[Nat.zero_mul,Nat.add_zero] at c0 c1 c2 c3 c4 c5 c6 c7 c8 c9 cP cR;have eL:(0:Int)<((q-j:Nat):Int):=ZO;obtain⟨N,hN⟩:∃ N,N=q-j:=⟨_,rfl⟩;have Oy:EvSl wr (some ⟨bk,off,none⟩) N C (l.drop j):=by rw[hN];exact HA.out
     have vi:=ZH Oy;rw[←hN] at eL yy ⊢;have HN:=ZH hN;have hNp:0<N:=ZO;have Ip:N<=1000000:=ZO;clear hN Oy he HA;by_cases heL:e.n<=L
     ·have SE:((e.n:Int)<=(L:Int)):=ZO;refine ZSi [(0,3),(1,3),(2,3),(3,3),(4,3),(5,3),(6,3),(7,0),(8,3),(9,1),(10,3),(11,3)] λ bR=>?_
      repeat((first | refine ZSa ?_ | refine ZSb ?_ | refine ZSc ?_);simp only[Act.put,ZA,ZB,ZC])
      refine ZSd λ K hK=>?_
      go_simp;refine(Zdk (BQ.out.upd (ZUb (T:=λ n=>n≠t) bR.below (ZUb (T:=λ n=>n≠t) cr.out.below HF.out).fresh) (λ h=>h rfl)) cD hk).mono ?_;rintro r w1 ⟨rfl,bS⟩;rw[←gv.out];have cJ:=bR.step bS;refine hK.out (λ w'=>Kept wr.heap.size wr w') _ _ (λ _ h=>h) cJ (λ bT=>?_);clear hK K bR;repeat((first | refine ZSa ?_ | refine ZSb ?_ | refine ZSc ?_);simp only[Act.put,ZA,ZB,ZC])
      refine ZSf ?_;have cC:=ZH (cr.out.trans cJ cr.out.le);clear bT bS;go_wp2_with fail;have Em:N-1=q-(j+1):=by have:=HN.out;omega
      have hA:=(vi.out.of_same (w':=w1) (λ ad _ hl=>cJ.below.block _ hl) cJ.le).rest (k:=1) ZO;rw[List.drop_drop,Nat.one_mul,Em] at hA;rw[Em];refine⟨⟨j+1,_,_,ZO,rfl,.inr ZO,?_,cC⟩,?_⟩
      ·by_cases hC:C=1
       ·rw[if_pos hC];have h1:=vi.out.1;have h2:=vi.out.2.1;exact ZH ⟨ZO,ZO,hA.2.2.1,.inl ZO⟩
       ·rw[if_neg hC];exact ZH hA
      ·show q-(j+1)<q-j
       omega
     ·have SE:¬ ((e.n:Int)<=(L:Int)):=ZO;have tE:(l.filter λ e=>decide (L<e.n))=l.drop j:=by
       rw[Zf8 HL.out,show L+1-n0=j by omega]
      refine ZSi [(0,3),(1,3),(2,3),(3,3),(4,3),(5,3),(6,3),(7,0),(8,3),(9,1),(10,3),(11,3)] λ bR=>?_
      repeat((first | refine ZSa ?_ | refine ZSb ?_ | refine ZSc ?_);simp only[Act.put,ZA,ZB,ZC])
      refine ZSd λ K hK=>?_
      go_simp;refine(Zdk (BQ.out.upd (ZUb (T:=λ n=>n≠t) bR.below (ZUb (T:=λ n=>n≠t) cr.out.below HF.out).fresh) (λ h=>h rfl)) cD hk).mono ?_;rintro r w1 ⟨rfl,bS⟩;rw[←gv.out];have cJ:=bR.step bS;refine hK.out (λ w'=>Kept wr.heap.size wr w') _ _ (λ _ h=>h) cJ (λ bT=>?_);clear hK K bR;repeat((first | refine ZSa ?_ | refine ZSb ?_ | refine ZSc ?_);simp only[Act.put,ZA,ZB,ZC])
      refine ZSf ?_;have iZ:=ZH (vi.out.of_same (w':=w1) (λ ad _ hl=>cJ.below.block _ hl) cJ.le);have cY:=cr.out.trans cJ cr.out.le;have h1:=H.out.upd (ZUb (T:=λ n=>n≠t) cY.below HF.out) (λ h=>h rfl);have h2:=h1;obtain⟨fD,v,hb,hr⟩:=h1;obtain⟨ak,ck,rfl,qA⟩:=EvSl.ab hr.row;obtain⟨d0,d1,d2⟩:=hb.three;have Mc:=hb.lt;have IJ:p<w.heap.size:=by
       obtain⟨_,v,hb,_⟩:=H.out;exact hb.lt
      have hf2:=hb.frozen 2;have hNz:¬ N=0:=ZO;obtain⟨cC,zR,HB,CT,HM,CL⟩:=ZH6 cY h2 hb qA fD tE;obtain⟨T,hT⟩:∃ T,T=kept.length+N:=⟨_,rfl⟩;have hwT:IntKind.i64.wrap ((kept.length:Int)+(N:Int))=(T:Int):=by rw[IntKind.wrap_i64];omega
      have HT:=ZH hT;clear bT cJ bS cY h2 hb hr qA fD tE hT c0 c1 c2 c3 c4 c5 c6 c7 c8 c9 cP cR;by_cases pI:most<T
      ·have Ix:(most:Int)<(T:Int):=ZO;go_wp2
       go_ret;have E7:(l.drop j).length=N:=yy;have Sv:=HT.out;have oN:Z1 most base kept l=(21,kept):=by
        unfold Z1;rw[←gv.out,CL.out];simp only[];rw[if_neg ZO,if_pos ZO]
       rw[oN];exact⟨rfl,own,zR.out,ZUb cC.out.below HF.out⟩
      ·have Ix:¬ (most:Int)<(T:Int):=ZO;have OM:T<=1000000:=ZO;have lN:=Zh1 T OM w1;have kO:=ZBn w1 89 (madeCells Zj (T*12));have dL:(madeCells Zj (T*12)).size=T*12:=size_madeCells _ _;obtain⟨i0,hi,cM,cG,cK⟩:=info_parts Zbv;have Sw:=HT.out;have wq:(Builtin.copy_ #[128,128] 3 #[.slice (some ⟨w1.heap.size,0,none⟩) T T,.slice ak kept.length ck]).run prog (w1.alloc (.cells (madeCells Zj (T*12)) 89)) = .ok (goInt kept.length) (setAll (w1.alloc (.cells (madeCells Zj (T*12)) 89)) w1.heap.size 0 (evCells kept)):=by
        have hA:=CT.out.below ((ZW w1.heap.size w1).alloc (ZL _) (.cells (madeCells Zj (T*12)) 89));have iP:Nat.min kept.length T=kept.length:=Nat.min_eq_left ZO
        have h:=ZdF (P:=prog) (w1.alloc (.cells (madeCells Zj (T*12)) 89)) 128 128 3 89 i0 12 w1.heap.size 0 T T ak kept.length ck (evCells kept) underlying128 hi cG (by rw[Zao,iP]) (by rw[iP];exact hA.reads) (λ j hj=>by
         rw[Zao] at hj;have hc:=kO.cell j;rw[Nat.zero_add,hc,Array.getElem?_eq_getElem (by rw[dL];omega)]
         rfl) (λ j _=>by rw[Nat.zero_add];exact kO.frozen j) (Zbi _)
        rw[iP] at h;exact h
       obtain⟨WB,vW⟩:∃ WB,WB=setAll (w1.alloc (.cells (madeCells Zj (T*12)) 89)) w1.heap.size 0 (evCells kept):=⟨_,rfl⟩;have LM:Below w1.heap.size w1 WB:=by
        rw[vW];exact(ZaB ((ZKr w1).alloc (.cells (madeCells Zj (T*12)) 89)) (ZL _) 0 _).below
       have tR:Blk WB w1.heap.size 89 ((madeCells Zj (T*12)).toList.take 0++evCells kept++(madeCells Zj (T*12)).toList.drop (0+(evCells kept).length)).toArray:=by
        rw[vW]
        exact Zba _ 0 _ _ (by simpa using kO) (by
         have h1:(madeCells Zj (T*12)).toList.length=T*12:=by rw[Array.length_toList,dL]
         rw[Zao,h1]
         omega)
       have F3:(((madeCells Zj (T*12)).toList.take 0++evCells kept++(madeCells Zj (T*12)).toList.drop (0+(evCells kept).length)).toArray).size=T*12:=by
        simp only[List.size_toArray,ZI,List.length_drop,List.take_zero,List.length_nil,Array.length_toList,dL,Zao];omega
       rw[←vW] at wq;have wt:(Builtin.copy_ #[128,128] 3 #[.slice (some ⟨w1.heap.size,kept.length*12,none⟩) N N,.slice (some ⟨bk,off,none⟩) N C]).run prog WB = .ok (goInt N) (setAll WB w1.heap.size (kept.length*12) (evCells (l.drop j))):=by
        have hA:=iZ.out.below LM;have iP:Nat.min N N=N:=Nat.min_self N
        have h:=ZdF (P:=prog) WB 128 128 3 89 i0 12 w1.heap.size (kept.length*12) N N (some ⟨bk,off,none⟩) N C (evCells (l.drop j)) underlying128 hi cG (by rw[Zao,iP,yy]) (by rw[iP];exact hA.reads) (λ j' hj=>by
         rw[Zao,yy] at hj;rw[tR.cell,Array.getElem?_eq_getElem (by rw[F3];omega)]
         rfl) (λ j _=>tR.frozen _) (Zbi _)
        rw[iP] at h;exact h
       obtain⟨WC,K9⟩:∃ WC,WC=setAll WB w1.heap.size (kept.length*12) (evCells (l.drop j)):=⟨_,rfl⟩;have vX:WC=setAll (w1.alloc (.cells (madeCells Zj (T*12)) 89)) w1.heap.size 0 (evCells (kept++l.drop j)):=by
        rw[K9,vW,Zbj,←Zi8,Zao,Nat.zero_add]
       rw[←K9] at wt;have yt:Kept w1.heap.size w1 WC:=by
        rw[vX];exact ZaB ((ZKr w1).alloc _) (ZL _) 0 _
       have yQ:WC.ownsRow w1.heap.size 89 12 (.slice (some ⟨w1.heap.size,0,none⟩) T T) (kept++l.drop j).length (evCells (kept++l.drop j)):=by
        rw[vX];exact Zka OM (by rw[ZI,yy,HT.out])
       have Pw:w1.heap.size<WC.heap.size:=by
        rw[vX,ZaR];simp
       have Le:Blk WB p 281 (shelfArr most base (.slice ak kept.length ck)):=HB.out.ob LM;have nN:Blk (w1.alloc (.cells (madeCells Zj (T*12)) 89)) p 281 (shelfArr most base (.slice ak kept.length ck)):=HB.out.alloc _;have EC:Blk WC p 281 (shelfArr most base (.slice ak kept.length ck)):=HB.out.ob yt.below;have dB2:=Le.three.2.2;have dA2:=nN.three.2.2;have dC2:=EC.three.2.2;have hltB:=Le.lt;have hltC:=EC.lt;have hf2C:=EC.frozen 2;have hkT:((kept.length:Int))<=(T:Int):=ZO;have hk00:(0:Int)<=(kept.length:Int):=ZO;have K6:T-kept.length=N:=ZO;have hTk2:¬ (T=kept.length):=ZO;obtain⟨xE,CA,CC,Q4,J6,zQ,QM⟩:=ZH7 lN wq wt yt yQ Pw EC;clear lN wq wt yt yQ Pw EC Le nN vX K9 vW tR F3 LM kO dL Sw;have lN:=xE.out;have wq:=CA.out;have wt:=CC.out;go_wp2
       go_ret;have E7:(l.drop j).length=N:=yy;have Sv:=HT.out;have oN:Z1 most base kept l=(0,kept++l.drop j):=by
        unfold Z1;rw[←gv.out,CL.out];simp only[];rw[if_neg ZO,if_neg ZO]
       rw[oN];exact⟨rfl,Zoh HM.out HF.out QM.out (cC.out.step Q4.out.below).below J6.out zQ.out IJ cC.out.le⟩
    ·obtain rfl:j=q:=ZO;have KZ:j-j=0:=Nat.sub_self j;rw[KZ] at HA ⊢;have oI:l.drop j=[]:=List.eq_nil_of_length_eq_zero (by rw[yy,KZ]);have tE:(l.filter λ e=>decide (L<e.n))=[]:=by
      rw[Zf8 HL.out];have hlen:=fE.out;rcases uH with rfl | uH
      ·have:l=[]:=List.eq_nil_of_length_eq_zero hlen;rw[this];simp
      ·exact List.drop_of_length_le ZO
     have oN:Z1 most base kept l=(0,kept):=by
      unfold Z1;rw[←gv.out,tE];rfl
     have sM:=ZH oN;clear oN tE oI;refine ZSi [(0,3),(1,3),(2,3),(3,3),(4,3),(5,3),(6,3),(7,0),(8,3),(9,1),(10,3),(11,3)] λ bR=>?_
     repeat((first | refine ZSa ?_ | refine ZSb ?_ | refine ZSc ?_);simp only[Act.put,ZA,ZB,ZC])
     refine ZSf ?_;have cY:=cr.out.trans bR cr.out.le;have cC:=ZH cY;clear cY bR;go_wp2
     go_ret;rw[sM.out];exact⟨rfl,own,H.out.upd (ZUb (T:=λ n=>n≠t) cC.out.below HF.out) (λ h=>h rfl),ZUb cC.out.below HF.out⟩
theorem Zcg{a:Option Addr}{n cap:Nat}{bs:List Nat}{w:World}(h:Bytes w a n cap bs)(hs:∀ x∈bs,x<256)(h300:n<=200000):
  Calls prog 123 #[.slice a n cap] w (Zsh (Zau bs) w):=by
 obtain⟨d0,d1,d2,d3,hd⟩:∃ d0 d1 d2 d3,ZbJ (ZdK bs)=[d0,d1,d2,d3]:=⟨_,_,_,_,rfl⟩;obtain⟨i0,hi,cM,cG,cK⟩:=info_parts ZaA;have lN:=λ W=>ZkJ (P:=prog) 106 5 i0 (.int .u8 0) underlying106 hi cM .i64 .i64 0 (n+4) ZO (by rw[cK];omega) ZO W
 rw[cG] at lN;have e4:((n+4:Nat):Int)=(n:Int)+4:=ZO;have e0:((0:Nat):Int)=0:=rfl;rw[e4,e0] at lN;obtain⟨fE,HB,HS,HD,xE⟩:=ZH5 (h.len) h hs hd lN;clear h hs hd lN e4 e0;go_enter func123,ntmps123;go_wp2_with fail;refine(ZlV HB.out HS.out).mono ?_;rintro e w1 ⟨rfl,bS⟩;have dE:Kept w.heap.size w w1:=Kept.start bS;clear bS;rw[HD.out];have eX:(cells [d0,d1,d2,d3]).toArray=#[.int .u8 (d0:Int),.int .u8 (d1:Int),.int .u8 (d2:Int),.int .u8 (d3:Int)]:=rfl;rw[eX];clear eX;go_wp2_with fail;rw[xE.out];have bY:Blk (w1.alloc (.cells #[.int .u8 (d0:Int),.int .u8 (d1:Int),.int .u8 (d2:Int),.int .u8 (d3:Int)] 274)) w1.heap.size 274 (cells [d0,d1,d2,d3]).toArray:=ZBn w1 274 _;have rA:=dE.alloc (.cells #[.int .u8 (d0:Int),.int .u8 (d1:Int),.int .u8 (d2:Int),.int .u8 (d3:Int)] 274);have KP:=HB.out.kept rA.below (ZL _);have Bq:(w1.alloc (.cells #[.int .u8 (d0:Int),.int .u8 (d1:Int),.int .u8 (d2:Int),.int .u8 (d3:Int)] 274)).heap.size=w1.heap.size+1:=ZM;generalize w1.alloc (.cells #[.int .u8 (d0:Int),.int .u8 (d1:Int),.int .u8 (d2:Int),.int .u8 (d3:Int)] 274)=W at bY rA KP Bq ⊢;have jD:=Zpd W w.heap.size (n+4) rA.le (by unfold maxLen;omega);have cY:=rA.alloc (.cells (madeCells (Value.int .u8 0).cells ((n+4)*1)) 5);have tu:=bY.alloc (.cells (madeCells (Value.int .u8 0).cells ((n+4)*1)) 5);have fL:=(KP.reads).alloc (ZL _) (.cells (madeCells (Value.int .u8 0).cells ((n+4)*1)) 5);have xc:(W.alloc (.cells (madeCells (Value.int .u8 0).cells ((n+4)*1)) 5)).heap.size=W.heap.size+1:=ZM;generalize W.alloc (.cells (madeCells (Value.int .u8 0).cells ((n+4)*1)) 5)=X at jD cY tu fL xc ⊢;have fc:=dE.le;have hW:W.heap.size=w1.heap.size+1:=Bq;generalize W.heap.size=gs at jD fL xc hW ⊢;obtain⟨vj,iH,p9⟩:=ZH3 jD fL tu;have cC:=cY;obtain⟨HW,Ry⟩:=ZH2 hW xc;clear hW xc;clear bY rA KP Bq jD cY tu fL dE xE
 go_wp2_with (at_builtin;first
  |(refine Zc _ rfl (.tmp 11) (.tmp 12) _ rfl w.heap.size 5 i0 _ 1 1 underlying106 hi cM cG cK rfl ZO (.slice (some ⟨gs,0,none⟩) 0 (n+4)) 0 (cells []) rfl vj.out gs a n cap (cells bs) rfl iH.out (Z2 _) ZF ZO cC.le ?_;intro v4 w4 cd dn jc
    have lD:X.grownBy w4 (some gs):=dn;have Ay:=p9.out.grown lD (by have hW:=HW.out;intro h;injection h with h;omega);have FU:=Zps Ay w4.heap.size Ay.lt;have dr:Below w.heap.size w w4:=cC.below.grown lD cC.le (λ g hg=>by have hW:=HW.out;injection hg with hg;omega);obtain⟨dt,J7,I4⟩:=ZH3 cd FU jc
    clear cd FU dn lD jc Ay)
  |(refine Zc _ rfl (.tmp 14) (.tmp 15) _ rfl w.heap.size 5 i0 _ 1 1 underlying106 hi cM cG cK rfl ZO v4 (0+n) (cells []++cells bs) rfl dt.out w4.heap.size (some ⟨w1.heap.size,0,none⟩) 4 4 (cells [d0,d1,d2,d3]) rfl J7.out (Z2 _) ZF ZO dr.size ?_;intro v5 w5 lP kg wh))
 have e:Zau bs=bs++[d0,d1,d2,d3]:=by unfold Zau;rw[HD.out]
 have e2:cells []++cells bs++cells [d0,d1,d2,d3]=cells (Zau bs):=by rw[e,Zq];rfl
 have e3:(Zau bs).length=0+n+4:=by rw[ZbD,fE.out];omega
 have dw:Below w.heap.size w w5:=dr.grown kg dr.size (λ g hg=>by
  have hW:=HW.out;have hX:=Ry.out;rcases I4.out with e | e
  ·have e':v4.ownBlock=some gs:=e;rw[e'] at hg;injection hg with hg;omega
  ·rw[e] at hg;injection hg with hg;omega)
 go_ret;refine⟨v5,rfl,?_,dw⟩;rw[e3,←e2];exact lP
def le:Nat->Nat->List Nat
 | 0,_=>[]
 | k+1,s=>s%256::le k (s / 256)
def ZdE(a b:Int × Int):Bool:=decide (a.1<b.1)||(a.1==b.1&&decide (a.2<b.2))
def mx(m s:Int × Int):Int × Int:=if ZdE m s then s else m
def ZfW(xs:List (Int × Int))(k:Nat):Int × Int:=(xs.take k).foldl mx (xs.getD 0 (0,0))
theorem Zj5(a b:Int × Int):ZdE a b=true↔a.1<b.1∨(a.1=b.1/\a.2<b.2):=by simp[ZdE]
theorem Zfz(a b:Int × Int):ZdE a b=false↔¬ (a.1<b.1∨(a.1=b.1/\a.2<b.2)):=by rw[←Zj5];simp
theorem Zos(xs:List (Int × Int))(k:Nat)(h:k<xs.length):xs.take (k+1)=xs.take k++[xs.getD k (0,0)]:=by
 rw[List.take_succ_eq_append_getElem h];simp[List.getD,h]
theorem ZoA(xs:List (Int × Int)):ZfW xs 0=xs.getD 0 (0,0):=rfl
theorem ZgM(xs:List (Int × Int))(k:Nat)(h:k<xs.length):ZfW xs (k+1)=mx (ZfW xs k) (xs.getD k (0,0)):=by
 unfold ZfW;rw[Zos xs k h,List.foldl_append];rfl
theorem Zib(xs:List (Int × Int))(h0:0<xs.length):∀ k,k<=xs.length->∃ j,j<xs.length/\xs.getD j (0,0)=ZfW xs k
 | 0,_=>⟨0,h0,rfl⟩
 | k+1,hk=>by
  rw[ZgM xs k ZO];unfold mx;split
  ·exact⟨k,ZO,rfl⟩
  ·exact Zib xs h0 k ZO
theorem Zic(xs:List (Int × Int)):∀ k,k<=xs.length->∀ j,j<k->ZdE (ZfW xs k) (xs.getD j (0,0))=false
 | 0,_=>λ j hj=>ZO
 | k+1,hk=>λ j hj=>by
  rw[ZgM xs k ZO];unfold mx;rcases Nat.lt_or_ge j k with h | h
  ·have ih:=Zic xs k ZO j h;split
   ·rename_i hl;rw[Zj5] at hl;rw[Zfz] at ih ⊢;omega
   ·exact ih
  ·obtain rfl:j=k:=ZO;split
   ·rw[Zfz];omega
   ·rename_i hl;simpa using hl
def IsLast(xs:List (Int × Int))(k:Nat):Prop :=
 k<xs.length/\(∀ j,j<xs.length->ZdE (xs.getD k (0,0)) (xs.getD j (0,0))=false)/\∀ j,j<k->xs.getD j (0,0)≠xs.getD k (0,0)
theorem Znn(a b:Int × Int)(h1:ZdE a b=false)(h2:ZdE b a=false):a=b:=by
 rw[Zfz] at h1 h2;obtain⟨a1,a2⟩:=a;obtain⟨b1,b2⟩:=b;simp only[Prod.mk.injEq] at *;omega
end Go.Proofs.YtjkfognelhiepaaGreat
