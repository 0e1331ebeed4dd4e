import Derived.Test.YtjkfognelhiepaaGreatC15
import Derived.Tactics
import Derived.Tactics2
import Derived.Defers
import Derived.Laws.Pointers
import Derived.Laws.LoneSync
import Derived.RegionCalls
import Derived.ChangeAlike
namespace Go.Proofs.YtjkfognelhiepaaGreat
open Go.RowKit _root_.Go.Proofs.Tryz
set_option maxRecDepth 100000
set_option maxHeartbeats 8000000
abbrev Zhp:Array Value:=#[.int .i64 0,.slice none 0 0]
theorem ZrM:(prog.info? 136).map (·.zero)=some (some (.agg Zhp)):=ZK
theorem ZfH(a b:List (Nat × Value)):flCells (a++b)=flCells a++flCells b:=by simp[flCells]
theorem ZhN(es:List (Nat × Value))(i:Nat):flCells (es.take i)=(flCells es).take (i*2)/\flCells (es.drop i)=(flCells es).drop (i*2):=by
 have h:=ZfH (es.take i) (es.drop i);rw[List.take_append_drop] at h;rcases Nat.lt_or_ge es.length i with hi | hi
 ·rw[List.drop_eq_nil_of_le ZO,List.drop_eq_nil_of_le (by rw[Zes];omega),ZU ZO,ZU (by rw[Zes];omega)];exact⟨rfl,rfl⟩
 ·have hl:(flCells (es.take i)).length=i*2:=by rw[Zes,ZV,Nat.min_eq_left hi]
  rw[h,←hl];exact⟨List.take_left.symm,List.drop_left.symm⟩
theorem ZoR{w:World}{base n cap g i j:Nat}{es:List (Nat × Value)}(h:w.ownsRow base 136 2 (.slice (some ⟨g,0,none⟩) n cap) n (flCells es))(oD:i<=j)(AX:j<=n)(hn:n<=1000000)(Ob:∀ u∈flCells es,u.oneCell'=true):
  Calls prog 104 #[.slice (some ⟨g,0,none⟩) n cap,.int .i64 i,.int .i64 j] w λ r w'=>r = .returned (.slice (some ⟨g,0,none⟩) (i+(n-j)) cap)/\w'.ownsRow base 136 2 (.slice (some ⟨g,0,none⟩) (i+(n-j)) cap) (i+(n-j)) (flCells (es.take i++es.drop j))/\w.grownBy w' (some g):=by
 obtain⟨i0,hi,cM,cG,cK⟩:=info_parts ZmV;have hlen:=h.1;have mu:n<=cap/\cap<=maxLen:=by
  rcases h.2 with ⟨h2,_⟩|⟨g',cap',cur,he,_,_,eH,ic,_⟩
  ·cases h2
  ·injection he with _ _ mJ;subst mJ;exact⟨eH,ic⟩
 obtain⟨eH,ic⟩:=mu;unfold maxLen at ic;have s6:flCells (es.take i++es.drop j)=(flCells es).take (i*2)++(flCells es).drop (j*2):=by rw[ZfH,(ZhN es i).1,(ZhN es j).2]
 rw[s6];have H1:=ZH Ob;clear Ob;generalize flCells es=xs at *;rcases Nat.eq_or_lt_of_le oD with rfl | ce
 ·have e1:i+(n-i)=n:=ZO;have e2:xs.take (i*2)++xs.drop (i*2)=xs:=List.take_append_drop _ _;rw[e1,e2];have H:=ZH h;clear h e1 e2 hlen;have SI:((i:Int)==(i:Int))=true:=ZM;rcases Nat.eq_or_lt_of_le AX with rfl | ce
  all_goals
   go_enter func104,ntmps104;go_wp2
   go_ret;exact⟨rfl,H.out,Zgc _ _⟩
 ·have dz:((i:Int)==(j:Int))=false:=ZP;obtain⟨cT,jz⟩:=Zjz (i:=i) (j:=j) (zs:=(Builtin.zeroCells Zhp (j-i)).toList) h oD AX (by simp[size_zeroCells]);have uG:i<n:=ZO;have eX:∀ ty,(Builtin.clear_ #[125] ty #[.slice (some ⟨g,(i+(n-j))*2,none⟩) (n-(i+(n-j))) (cap-(i+(n-j)))]).run prog (setAll w.drew g (i*2) (xs.drop (j*2))) = .ok (.tuple #[]) (setAll (setAll w.drew g (i*2) (xs.drop (j*2))) g ((i+(n-j))*2) (Builtin.zeroCells Zhp (j-i)).toList):=by
   intro ty;have e1:n-(i+(n-j))=j-i:=ZO;rw[e1];rcases h.2 with ⟨h2,_⟩|⟨g',cap',cur,he,_,hh,_,_,gz,_⟩
   ·cases h2
   ·injection he with fl _ mJ
    injection fl with fl
    injection fl with fl
    subst fl mJ;have bY:Blk w.drew g 136 cur.toList.toArray:=by rw[Array.toArray_toList];exact hh
    have hd:(xs.drop (j*2)).length=(n-j)*2:=by rw[List.length_drop,hlen,Nat.sub_mul]
    have bS:=Zba (xs.drop (j*2)) (i*2) w.drew cur.toList bY (by rw[hd,Array.length_toList,gz];omega);refine ZeH _ 125 136 ty (.agg Zhp) underlying125 (Zna ZrM) (by intro v hv;simp[Value.cells,Zhp] at hv;rcases hv with rfl | rfl <;> rfl) g _ (j-i) _ ZO (λ k hk=>?_) (λ k _=>bS.frozen _)
    rw[bS.cell,ZD,ZX (by
     have jB:k<(j-i)*2:=hk;simp only[ZI,ZV,List.length_drop,Array.length_toList,gz,hlen]
     omega)]
    rfl
  obtain⟨HO,HG,H,sv⟩:=ZH4 cT jz h eX;clear cT jz h hlen eX;go_enter func104,ntmps104;go_wp2_with fail;have SJ:(j:Int)<=(cap:Int):=ZO;have SH:(i:Int)<=(cap:Int):=ZO;have LH:i<=cap:=ZO;have LJ:(j:Int)<=(n:Int):=ZO;have R9:(0:Int)<=(i:Int):=ZO;have Sa:(0:Int)<=(j:Int):=ZO;have km:(n:Int)<=(cap:Int):=ZO;have em:∀ ty,(Builtin.append_ #[125,125] ty #[.slice (some ⟨g,0,none⟩) i cap,.slice (if cap=j then some ⟨g,0,none⟩ else some ⟨g,j*2,none⟩) (n-j) (cap-j)]).run prog w.drew = .ok (.slice (some ⟨g,0,none⟩) (i+(n-j)) cap) (setAll w.drew g (i*2) (xs.drop (j*2))):=by
   intro ty;have hx:=H.out.1;have eX:∀ k u,xs[k]? = some u->w.drew.cell? ((⟨g,0,none⟩:Addr).add k)=some u:=H.out.cells (g:=g) rfl;rcases H.out.2 with ⟨h2,_⟩|⟨g',cap',cur,he,_,hh,_,_,gz,_⟩
   ·cases h2
   ·injection he with fl _ mJ
    injection fl with fl
    injection fl with fl
    subst fl mJ;have bY:Blk w.drew g 136 cur.toList.toArray:=by rw[Array.toArray_toList];exact hh
    have jJ:(xs.drop (j*2)).length=(n-j)*2:=by rw[List.length_drop,hx,Nat.sub_mul]
    by_cases ru:cap=j
    ·rw[if_pos ru];have h0:n-j=0:=ZO
     exact Zdv w.drew _ ty 136 i0 underlying125 hi g cap 2 i (n-j) (cap-j) cG ⟨g,0,none⟩ cur.toList (xs.drop (j*2)) bY jJ (λ k u hk=>by
      rw[List.getElem?_eq_none (by rw[jJ,h0];omega)] at hk
      cases hk) (λ u hu=>H1.out u (List.mem_of_mem_drop hu)) ZO (by rw[Array.length_toList,gz])
    ·rw[if_neg ru]
     exact Zdv w.drew _ ty 136 i0 underlying125 hi g cap 2 i (n-j) (cap-j) cG ⟨g,j*2,none⟩ cur.toList (xs.drop (j*2)) bY jJ (λ k u hk=>by
      have:=eX (j*2+k) u (by rw[←hk,List.getElem?_drop]);have e1:(⟨g,j*2,none⟩:Addr).add k=(⟨g,0,none⟩:Addr).add (j*2+k):=by
       unfold Addr.add;by_cases h1:k=0 <;> by_cases h2:j*2+k=0 <;> simp[h1,h2] <;> omega
      rw[e1]
      exact this) (λ u hu=>H1.out u (List.mem_of_mem_drop hu)) ZO (by rw[Array.length_toList,gz])
  have iS:=ZH em;clear em;refine ZSh (λ w'=>Kept w.heap.size w w') [(0,3),(1,3),(2,3),(3,3),(4,3),(5,3),(6,2),(7,3)] (Kept.drew ⟨ZW _ _,ZL _⟩) λ bR=>?_
  repeat((first | refine ZSa ?_ | refine ZSb ?_ | refine ZSc ?_);simp only[Act.put,ZA,ZB,ZC])
  refine ZSe λ K hK=>?_
  refine Lib.wp_append_run _ (.tmp 22) (.tmp 25) _ _ rfl _ _ rfl rfl _ _ (iS.out _) ?_;refine hK.out _ _ ?_;clear hK K;obtain⟨w3,oR⟩:∃ w3,w3=setAll w.drew g (i*2) (xs.drop (j*2)):=⟨_,rfl⟩;have nJ:=ZH oR;rw[←oR] at sv ⊢;clear oR;repeat((first | refine ZSa ?_ | refine ZSb ?_ | refine ZSc ?_);simp only[Act.put,ZA,ZB,ZC])
  refine ZSf ?_;have eX:=sv.out;go_wp2_with fail
  all_goals(try (have ru:cap=j:=by assumption);try subst ru)
  all_goals
   go_ret;rw[nJ.out,Zda,Zda];exact⟨rfl,Zh HO.out (λ _ _ _=>rfl),ZcB HG.out ⟨rfl,rfl,rfl,ZL _,λ _ _ _=>rfl⟩⟩
theorem ZoX(a:Int)(x:Option Addr)(n c:Nat):(#[Value.int .i64 a,.slice x n c]).all (·.oneCell')=true:=by
 rw[Array.all_eq_true_iff_forall_mem];intro v hv;simp at hv;rcases hv with rfl | rfl <;> rfl
theorem Upd.aG{T:Nat->Prop}{own own':Own}{w w1 w2:World}{g:Nat}(h:Upd T own own' w w1)(hg:w1.grownBy w2 (some g))(hT:g<w.heap.size->T (own g)):Upd T own own' w w2 :=
 ⟨hg.os.trans h.os,hg.tape.trans h.tape,hg.output.trans h.output,ZT h.size hg.size,h.old,λ b hb hn=>(hg.block b (ZR hb h.size) (λ e=>by
  injection e with e
  exact hn (by rw[e];exact hT (e▸hb)))).trans (h.same b hb hn),λ b hb=>h.fresh b (ZT hg.size hb)⟩
theorem Upd.setRow{T:Nat->Prop}{own own':Own}{w w1:World}{g:Nat}(h:Upd T own own' w w1)(hg:g<w.heap.size->T (own g))(cs:Array Value):Upd T own own' w (w1.setRow g cs) :=
 ⟨h.os,h.tape,h.output,by rw[setRow_size];exact h.size,h.old,λ b hb hn=>(setRow_other _ _ _ _ (λ e=>hn (by rw[e];exact hg (e▸hb)))).trans (h.same b hb hn),λ b hb=>h.fresh b (by rw[setRow_size] at hb;exact hb)⟩
theorem Zpa{own:Own}{t p:Nat}{w:World}{fs:List Fl}(h:LinkAt own t w p fs)(hf:Fresh own w)(F5:t≠0)(jQ:fs.length<=1000000)(i:Nat){f:Fl}(o5:fs[i]? = some f)(hl:f.bytes.length<=1000000000):
  Calls prog 58 #[.pointer (some ⟨p,0,none⟩),.int .i64 i] w λ r w'=>∃ x,r = .returned (.tuple #[.agg #[.int .i64 f.to,x],.int .i64 0])/\RowB own 0 w' x f.bytes/\LinkAt own t w' p (fs.eraseIdx i)/\Upd (· = t) own own w w':=by
 have nQ:i<fs.length:=(ZZ.1 o5).1;have cA:=(ZKr w).alloc (.cells #[.int .i64 0,.slice none 0 0] 136);have HX:=ZH (ZBn w 136 #[.int .i64 0,.slice none 0 0]);have cX:=ZUb (T:=λ _=>False) cA.below hf;have lJ:=h.upd cX (λ h=>h) (λ h=>h);obtain⟨qP,HF,HK,HL,qe⟩:=ZH5 (Zj6 lJ i o5 hl) hf cA lJ o5;have IJ:p<w.heap.size:=by
  obtain⟨_,v,ps,hb,_⟩:=h;exact hb.lt
 clear h hf cA cX lJ o5;go_enter func58,ntmps58;go_wp2_with fail;refine qP.out.mono ?_;rintro _ w1 ⟨x,rfl,qJ,bS⟩;obtain⟨ax,cx,rfl,_⟩:=Bytes.ab qJ;have dE:=HK.out.step bS;have p7:=HX.out.ob bS;obtain⟨W,hW⟩:∃ W,W=w1.alloc (.cells #[.int .i64 (f.to:Int),.slice ax f.bytes.length cx] 136):=⟨_,rfl⟩;have rA:Kept w.heap.size w W:=by rw[hW];exact dE.alloc _
 have Gi:Blk W w.heap.size 136 #[.int .i64 0,.slice none 0 0]:=by rw[hW];exact p7.alloc _
 have Gj:Blk W w1.heap.size 136 #[.int .i64 (f.to:Int),.slice ax f.bytes.length cx]:=by rw[hW];exact ZBn _ _ _
 have Gp:W.ownsRow (w.heap.size+1) 5 1 (.slice ax f.bytes.length cx) f.bytes.length (cells f.bytes):=by
  rw[hW];have h:=qJ.alloc (.cells #[.int .i64 (f.to:Int),.slice ax f.bytes.length cx] 136);rwa [show(w.alloc (.cells #[.int .i64 0,.slice none 0 0] 136)).heap.size=w.heap.size+1 by simp] at h
 have Oq:LinkAt own t W p fs:=by
  have hb:Below (w.alloc (.cells #[.int .i64 0,.slice none 0 0] 136)).heap.size (w.alloc (.cells #[.int .i64 0,.slice none 0 0] 136)) W:=by rw[hW];exact((Kept.start bS).alloc _).below
  exact HL.out.upd (ZUb (T:=λ _=>False) hb (ZUb (T:=λ _=>False) HK.out.below HF.out).fresh) (λ h=>h) (λ h=>h)
 have QY:Hid (Fresh own W):=ZH ((ZUb (T:=λ _=>False) rA.below HF.out).fresh);have MF:w.heap.size<w1.heap.size:=p7.lt;obtain⟨xA,rX,fA,DG,NB,HW⟩:=ZH6 rA Gi Gj Gp Oq hW;clear qJ bS dE p7 rA Gi Gj Gp Oq hW HL qP HK HX;obtain⟨hm,v,ps,hb,hr,xh,fQ,gj⟩:=NB.out;have hv:∃ g cap,v = .slice (some ⟨g,0,none⟩) fs.length cap:=by
  rcases hr.2 with ⟨h1,h2⟩|⟨g,cp,_,h1,_⟩
  ·omega
  ·exact⟨g,cp,h1⟩
 obtain⟨g,cap,rfl⟩:=hv;have c0:=hb.cell 0;simp only[ZD,ZE] at c0;have ce:=hb.lt;have dA:∀ u∈flCells ps,u.oneCell'=true:=λ u hu=>by
  obtain⟨q,hq,hu⟩:=List.mem_flatMap.1 hu;obtain⟨j,hj,Pa⟩:=List.getElem_of_mem hq;obtain⟨y,hy,Tb⟩:=gj j (fs[j]'ZO) (ZX _);rw[ZX hj,Pa] at hy;injection hy with hy;subst hy;obtain⟨ay,cy,rfl,_⟩:=Bytes.ab Tb.row;simp at hu;rcases hu with rfl | rfl <;> rfl
 have AI:=ZoR hr (Nat.le_succ i) (show i+1<=fs.length from nQ) jQ dA;rw[show((i+1:Nat):Int)=(i:Int)+1 by omega] at AI;have hwi:IntKind.i64.wrap ((i:Int)+1)=(i:Int)+1:=by rw[IntKind.wrap_i64];omega
 obtain⟨HM,HB,HR,zZ,kS,ij,Ja⟩:=ZH7 hm hb hr xh fQ gj AI;clear hm hb hr xh fQ gj dA AI NB;rw[HW.out] at c0 ce;go_wp2_with fail;rw[←HW.out];refine Ja.out.mono ?_;rintro _ w4 ⟨rfl,ie,dn⟩;have jD:∀ k,w.heap.size<=k->k≠g:=λ k hk e=>by
  have h1:=HF.out k hk;rw[e] at h1;have h2:=zZ.out g rfl;exact F5 (h2.symm.trans h1)
 have FG:p≠g:=λ e=>Zo HR.out HB.out ZJ (by rw[e];rfl)
 have i3:=HB.out.grown dn (λ e=>FG (by injection e));have ro:=rX.out.grown dn (λ e=>jD _ (ZL _) (by injection e));have vY:=fA.out.grown dn (λ e=>jD _ (Nat.le_of_lt MF) (by injection e));obtain⟨W5,gK⟩:∃ W5,W5=w4.setCell ⟨p,0,none⟩ (.slice (some ⟨g,0,none⟩) (i+(fs.length-(i+1))) cap):=⟨_,rfl⟩;have Me:w.heap.size≠p:=ZO;have Mf:w1.heap.size≠p:=ZO;have oX:Blk W5 p 127 #[.slice (some ⟨g,0,none⟩) (i+(fs.length-(i+1))) cap]:=by rw[gK];exact i3.ai 0 _
 have Et:Blk W5 w.heap.size 136 #[.int .i64 0,.slice none 0 0]:=by rw[gK];exact ro.far Me _
 have Eu:Blk W5 w1.heap.size 136 #[.int .i64 (f.to:Int),.slice ax f.bytes.length cx]:=by rw[gK];exact vY.far Mf _
 have c4:=i3.cell 0;have f4:=i3.frozen 0;simp only[ZD,ZE] at c4;have pS:=i3.lt;obtain⟨e0,e1⟩:=vY.two;obtain⟨m0,m1⟩:=ro.two;have q0:=ro.frozen 0;have q1:=ro.frozen 1;have lJ:=ro.lt;have mL:=vY.lt;obtain⟨fU,Hi,kC,Ac,Kr,py,fK,vj⟩:=ZH8 ie dn oX Et Eu gK i3 jD;clear ie dn i3 ro vY oX Et Eu gK jD c0
 go_wp2_with (first
  |(refine wpList_load_row rfl 136 (.tmp 6) rfl w1.heap.size rfl 136 #[.int .i64 (f.to:Int),.slice ax f.bytes.length cx] (0,0) _ (by rw[←py.out];exact Kr.out) underlying136 rfl ZK ?_
    rw[←py.out])
  |(refine wpList_store_row rfl 136 (.tmp 4) (.tmp 29) rfl w.heap.size #[.int .i64 (f.to:Int),.slice ax f.bytes.length cx] rfl rfl 136 #[.int .i64 0,.slice none 0 0] Ac.out ZK rfl (ZoX _ _ _ _) ?_))
 refine bodyPost_ret (Zn rfl rfl rfl (run_loadVar_row _ _ _ _ _ _ _ (Ac.out.row _) underlying136 rfl ZK)) rfl ?_;have gB:own g=t:=zZ.out g rfl;have xg:Upd (· = t) own own W w4:=(Upd.refl (· = t) own W QY.out).aG Hi.out (λ _=>gB);have qH:Upd (· = t) own own W W5:=by
  rw[py.out];exact xg.setCell (p:=⟨p,0,none⟩) (λ _=>HM.out) _
 have hu:Upd (· = t) own own w (W5.setRow w.heap.size #[.int .i64 (f.to:Int),.slice ax f.bytes.length cx]):=by
  have h1:Upd (· = t) own own w W5:=(ZUb (T:=(· = t)) xA.out.below HF.out).trans qH;exact h1.setRow (λ h=>absurd h (Nat.lt_irrefl _)) _
 have tY:∀ (x:Value) (bs:List Nat),RowB own 0 W x bs->RowB own 0 (W5.setRow w.heap.size #[.int .i64 (f.to:Int),.slice ax f.bytes.length cx]) x bs:=λ x bs S9=>by
  have h1:=S9.upd qH (λ h=>F5 h.symm);exact⟨Zh h1.row (λ k hk _=>setRow_other _ _ _ _ (λ e=>Zo h1.row Ac.out ZJ (by rw[hk,e]))),h1.own⟩
 have S8:RowB own 0 W (.slice ax f.bytes.length cx) f.bytes:=⟨Zi DG.out (Nat.zero_le _),λ k hk=>HF.out k (by have:=Zb DG.out hk;omega)⟩;refine⟨_,rfl,tY _ _ S8,⟨HM.out,_,ps.take i++ps.drop (i+1),kC.out.aP ZO _,?_,λ k hk=>by injection hk with hk;rw[←hk];exact gB,?_,λ j fj hj=>?_⟩,hu⟩
 ·have E8:(fs.eraseIdx i).length=i+(fs.length-(i+1)):=by rw[List.length_eraseIdx,if_pos nQ];omega
  rw[E8];have h1:W5.ownsRow 0 136 2 (.slice (some ⟨g,0,none⟩) (i+(fs.length-(i+1))) cap) (i+(fs.length-(i+1))) (flCells (ps.take i++ps.drop (i+1))):=by
   rw[py.out];exact Zh fU.out (λ k hk _=>Below.heap_setCell _ _ _ _ (λ e=>Zo fU.out fK.out ZJ (by rw[hk,e])))
  exact Zh h1 (λ k hk _=>setRow_other _ _ _ _ (λ e=>by
   injection hk with hk
   exact vj.out k (by rw[e];exact ZL _) hk.symm))
 ·have fQ:=kS.out;rw[ZI,ZV,List.length_drop,List.length_eraseIdx,if_pos nQ];omega
 ·rw[List.getElem?_eraseIdx] at hj;have fQ:=kS.out;split at hj
  ·rename_i jS;obtain⟨x,hx,qJ⟩:=ij.out j fj hj;refine⟨x,?_,tY _ _ qJ⟩;rw[List.getElem?_append_left (by rw[ZV];omega),List.getElem?_take,if_pos jS];exact hx
  ·rename_i jS;obtain⟨x,hx,qJ⟩:=ij.out (j+1) fj hj;refine⟨x,?_,tY _ _ qJ⟩;have S3:(ps.take i).length=i:=by rw[ZV];omega
   rw[List.getElem?_append_right ZO,S3,List.getElem?_drop,show i+1+(j-i)=j+1 by omega];exact hx
def Zcv(l:List Ev)(e:Ev):Bool:=l.any λ a=>decide (a.kind=1)&&a.below e
def Zf2(l:List Ev):List Ev:=l.filter λ a=>decide (a.kind=1)||Zcv l a
def Zhr(e:Ev)(k:Nat)(same:Ev->Bool)(a:Ev):Bool := !(decide (a.kind=k)) || !same a || !(a.below e)
def Zbn(l:List Ev)(e:Ev)(k:Nat)(same:Ev->Bool):List Ev:=l.filter (Zhr e k same)
theorem Zk6{w:World}{pe:Nat}{e:Ev}(he:Blk w pe 89 (evArr e))(a:Ev)(hr:a.r<5):
  Calls prog 227 #[Zaa a,.pointer (some ⟨pe,0,none⟩)] w (Zv (.bool (decide (a.kind=1)&&a.below e)) w):=by
 have hy:=λ W=>Zfm a e W hr
 have el:=(ZW w.heap.size w).alloc (ZL _) (.cells (evArr a) 89);have fl:=he.ob el;obtain⟨e0,e1,e2,e3,e4,e5,e6,e7,e8,e9,iJ,ja⟩:=fl.ae;have fc:=he.lt;have HB:=ZH el;clear he fl el;go_enter func227,ntmps227;by_cases hk:a.kind=1
 ·have cJ:((a.kind:Int)==1)=true:=by simp[hk]
  have lZ:=ZH hk;clear hk;go_wp2_with fail;refine(hy _).mono ?_;rintro _ w2 ⟨rfl,bW⟩;go_wp2
  go_ret;exact⟨by simp[lZ.out],HB.out.trans (bW.mono HB.out.size)⟩
 ·have cJ:((a.kind:Int)==1)=false:=ZP;have lZ:=ZH hk;clear hk;go_wp2
  go_ret;exact⟨by simp[lZ.out],HB.out⟩
theorem ZhF{w:World}{e:Ev}{a:Option Addr}{n cap:Nat}{l:List Ev}(h:EvSl w a n cap l)(hn:n<=1000000)(hr:∀ x∈l,x.r<5):
  Calls prog 196 #[.slice a n cap,Zaa e] w (Zv (.bool (Zcv l e)) w):=by
 have hE:=ZBn w 89 (evArr e);have nf:=(ZW w.heap.size w).alloc (ZL _) (.cells (evArr e) 89);have hc:=Zfw (h.below nf) hn 227 #[.pointer (some ⟨w.heap.size,0,none⟩)] (λ a=>decide (a.kind=1)&&a.below e) (enters_of func227 ZK rfl)
  (λ W x hx hW=>Zk6 (hE.below hW ZM) x (hr x hx))
 obtain⟨HC,HB⟩:=ZH2 hc nf;clear hE nf hc h;go_enter func196,ntmps196;go_wp2_with fail;refine HC.out.mono ?_;rintro _ w1 ⟨rfl,bS⟩;go_wp2
 go_ret;exact⟨rfl,HB.out.trans (bS.mono ZM)⟩
theorem Zl9{w:World}{a:Option Addr}{n cap:Nat}{l:List Ev}(h:EvSl w a n cap l)(hn:n<=1000000)(hr:∀ x∈l,x.r<5):
  Calls prog 193 #[.slice a n cap] w (Zel (Zf2 l) w):=by
 obtain⟨p,im⟩:∃ p:Ev->Bool,p=λ a=>decide (a.kind=1)||Zcv l a:=⟨_,rfl⟩
 have e0:Zf2 l=l.filter p:=by rw[im];rfl
 rw[e0];have HP:=ZH im;clear im e0;have HL:=ZH (h.2.2.1);obtain⟨i0,hi,cM,cG,cK⟩:=info_parts Zbv;obtain⟨HR,HE⟩:=ZH2 hr h;have HO:Hid (w.ownsRow w.heap.size 89 12 (.slice none 0 0) ((l.take 0).filter p).length (evCells ((l.take 0).filter p))):=ZH ⟨rfl,.inl ⟨rfl,rfl⟩⟩;have HK:=ZH (ZKr w);clear h hr;go_enter func193,ntmps193;go_wp2_with fail;go_loopw [3,8] (λ v i wr=>∃ q:Nat,q<=n/\i = .int .i64 q/\Hid (wr.ownsRow w.heap.size 89 12 v ((l.take q).filter p).length (evCells ((l.take q).filter p)))/\Hid (Kept w.heap.size w wr)) (λ _ i _=>n-(intOf i).toNat)
 case atStart=>exact⟨0,Nat.zero_le _,rfl,HO,HK⟩
 case round =>
  clear HO HK;obtain⟨q,hq,rfl,HO,HK⟩:=hrel;by_cases dy:q<n
  ·obtain⟨e,he⟩:∃ e,l[q]? = some e:=⟨_,ZX (by rw[HL.out];exact dy)⟩;have hs:=HE.out.of_same (w':=wr) (λ ad _ hl=>HK.out.below.block _ hl) HK.out.le;have fx:=hs;obtain⟨bk,off,rfl,cQ,c0,c1,c2,c3,c4,c5,c6,c7,c8,c9,cP,cR⟩:=hs.at_ he;have it:=Zdz p (l.take q) e;rw[←Zag he] at it;have rt:((l.take q).filter p).length<=1000000:=by
    have h1:=List.length_filter_le p (l.take q);rw[ZV] at h1;omega
   obtain⟨aa,eV,rfl,_⟩:=EvSl.ab HO.out;have cr:=ZH (HK.out.alloc (.cells (evArr e) 89));have fk:=(ZW wr.heap.size wr).alloc (ZL _) (.cells (evArr e) 89);obtain⟨jG,mS,I3,eI⟩:=ZH4 (Ze HO.out fk) (ZBn wr 89 (evArr e)) (ZhF (e:=e) (fx.below fk) hn HR.out) it;clear hs fx he it fk;by_cases dE:e.kind=1
   ·have kU:((e.kind:Int)==1)=true:=by simp[dE]
    have hp:p e=true:=by rw[HP.out];simp[dE]
    rw[if_pos hp] at eI;clear dE;have dr:=cr.out.alloc (.cells (evArr e) 89);have gL:=Ze jG.out ((ZW _ _).alloc (ZL _) (.cells (evArr e) 89));have dQ:=dr.le;obtain⟨cZ,dt⟩:=ZH2 dr gL;clear dr gL;go_wp2_with (at_builtin;refine Zc _ rfl (.tmp 20) (.tmp 22) _ rfl w.heap.size 89 i0 _ 12 112 underlying128 hi cM cG cK rfl ZO (.slice aa ((l.take q).filter p).length eV) ((l.take q).filter p).length (evCells ((l.take q).filter p)) rfl dt.out (wr.heap.size+1+1) (some ⟨wr.heap.size+1,0,none⟩) 1 1 (evArr e).toList rfl (ZdR _ _ _) (ZaK e) ZF ZO dQ ?_;intro v7 w7 bX cN dP)
    have gM:w7.ownsRow w.heap.size 89 12 v7 ((l.take (q+1)).filter p).length (evCells ((l.take (q+1)).filter p)):=by rw[eI.out];exact RowE.snoc bX
    have ik:Kept w.heap.size w w7:=⟨cZ.out.below.grown cN cZ.out.le (λ g hg=>(Zb dt.out hg).1),ZT cZ.out.le cN.size⟩;obtain⟨gW,fd⟩:=ZH2 gM ik;go_wp2
    go_roundw
    case rel=>exact⟨q+1,ZO,ZN,gW,fd⟩
    case measure=>simp[intOf];omega
   ·have kU:((e.kind:Int)==1)=false:=ZP;have cE:=ZH dE;clear dE;go_wp2_with fail;refine I3.out.mono ?_;rintro _ w3 ⟨rfl,bZ⟩;have jI:=mS.out.ob bZ;obtain⟨x0,x1,x2,x3,x4,x5,x6,x7,x8,x9,eE,eG⟩:=jI.ae;have kJ:=jI.lt;obtain⟨cC,gV⟩:=ZH2 (cr.out.step bZ) (Ze jG.out bZ);clear bZ jI;rcases gn:Zcv l e with _ | _
    ·have hp:¬ p e=true:=by rw[HP.out];simp[cE.out,gn]
     rw[if_neg hp,List.append_nil] at eI;go_wp2
     go_roundw
     case rel=>exact⟨q+1,ZO,ZN,by rw[eI.out];exact gV,cC⟩
     case measure=>simp[intOf];omega
    ·have hp:p e=true:=by rw[HP.out];simp[gn]
     rw[if_pos hp] at eI;have dr:=cC.out.alloc (.cells (evArr e) 89);have gL:=Ze gV.out ((ZW w3.heap.size w3).alloc (ZL _) (.cells (evArr e) 89));have dQ:=dr.le;obtain⟨cZ,dt⟩:=ZH2 dr gL;clear dr gL;go_wp2_with (at_builtin;refine Zc _ rfl (.tmp 20) (.tmp 22) _ rfl w.heap.size 89 i0 _ 12 112 underlying128 hi cM cG cK rfl ZO (.slice aa ((l.take q).filter p).length eV) ((l.take q).filter p).length (evCells ((l.take q).filter p)) rfl dt.out (w3.heap.size+1) (some ⟨w3.heap.size,0,none⟩) 1 1 (evArr e).toList rfl (ZbN w3 e) (ZaK e) ZF ZO dQ ?_;intro v7 w7 bX cN dP)
     have gM:w7.ownsRow w.heap.size 89 12 v7 ((l.take (q+1)).filter p).length (evCells ((l.take (q+1)).filter p)):=by rw[eI.out];exact RowE.snoc bX
     have ik:Kept w.heap.size w w7:=⟨cZ.out.below.grown cN cZ.out.le (λ g hg=>(Zb dt.out hg).1),ZT cZ.out.le cN.size⟩;obtain⟨gW,fd⟩:=ZH2 gM ik;go_wp2
     go_roundw
     case rel=>exact⟨q+1,ZO,ZN,gW,fd⟩
     case measure=>simp[intOf];omega
  ·obtain rfl:q=n:=ZO;have gh:l.take q=l:=ZU (by rw[HL.out];exact ZL _);rw[gh] at HO;obtain⟨aa,eV,rfl,_⟩:=EvSl.ab HO.out;go_wp2
   go_ret;exact⟨_,rfl,HO.out,HK.out.below⟩
theorem Zdb{w:World}{a:Option Addr}{n cap:Nat}{l:List Ev}(h:EvSl w a n cap l)(hn:n<=1000000)(hr:∀ x∈l,x.r<5)(e0:Ev)(k F:Nat)(mo:Array Value)(same:Ev->Bool)(kH:∀ args W,(callFunc F args).run prog W = .ok (.enter F args) W)
  (eX:∀ W e,e∈l->Below w.heap.size w W->Calls prog F (#[Zaa e]++mo) W (Zv (.bool (same e)) W)) :
  Calls prog 194 #[.slice a n cap,Zaa e0,.int .i64 k,.func (.func F) #[] mo] w (Zel (Zbn l e0 k same) w):=by
 obtain⟨p,im⟩:∃ p:Ev->Bool,p=Zhr e0 k same:=⟨_,rfl⟩;have e9:Zbn l e0 k same=l.filter p:=by rw[im];rfl
 rw[e9];have HP:=ZH im;clear im e9;have HL:=ZH (h.2.2.1);obtain⟨i0,hi,cM,cG,cK⟩:=info_parts Zbv;have cD:=(ZW w.heap.size w).alloc (ZL _) (.cells (evArr e0) 89);obtain⟨HS,HE,di,HR⟩:=ZH4 (ZBn w 89 (evArr e0)) (h.below cD) cD hr;have EN:∀ W e,e∈l->Below (w.alloc (.cells (evArr e0) 89)).heap.size (w.alloc (.cells (evArr e0) 89)) W->Calls prog F (#[Zaa e]++mo) W (Zv (.bool (same e)) W) :=
  λ W e he hW=>eX W e he (cD.trans (hW.mono cD.size))
 clear h hr eX;go_enter func194,ntmps194;go_wp2_with fail;generalize w.alloc (.cells (evArr e0) 89)=w1 at *;have sv:=ZH EN;have HO:Hid (w1.ownsRow w1.heap.size 89 12 (.slice none 0 0) ((l.take 0).filter p).length (evCells ((l.take 0).filter p))):=ZH ⟨rfl,.inl ⟨rfl,rfl⟩⟩;have HK:=ZH (ZKr w1);clear cD EN;go_loopw [9,14] (λ v i wr=>∃ q:Nat,q<=n/\i = .int .i64 q/\Hid (wr.ownsRow w1.heap.size 89 12 v ((l.take q).filter p).length (evCells ((l.take q).filter p)))/\Hid (Kept w1.heap.size w1 wr)) (λ _ i _=>n-(intOf i).toNat)
 case atStart=>exact⟨0,Nat.zero_le _,rfl,HO,HK⟩
 case round =>
  clear HO HK;obtain⟨q,hq,rfl,HO,HK⟩:=hrel;by_cases dy:q<n
  ·obtain⟨e,he⟩:∃ e,l[q]? = some e:=⟨_,ZX (by rw[HL.out];exact dy)⟩;have hs:=HE.out.of_same (w':=wr) (λ ad _ hl=>HK.out.below.block _ hl) HK.out.le;obtain⟨bk,off,rfl,cQ,c0,c1,c2,c3,c4,c5,c6,c7,c8,c9,cP,cR⟩:=hs.at_ he;have it:=Zdz p (l.take q) e;rw[←Zag he] at it;have rt:((l.take q).filter p).length<=1000000:=by
    have h1:=List.length_filter_le p (l.take q);rw[ZV] at h1;omega
   obtain⟨aa,eV,rfl,_⟩:=EvSl.ab HO.out;have cJ:=HK.out.alloc (.cells (evArr e) 89);have fk:=(ZW wr.heap.size wr).alloc (ZL _) (.cells (evArr e) 89);obtain⟨jG,mS⟩:=ZH2 (Ze HO.out fk) (ZBn wr 89 (evArr e));have eP:Hid (Blk (wr.alloc (.cells (evArr e) 89)) w.heap.size 89 (evArr e0)):=ZH (HS.out.below cJ.below HS.out.lt);obtain⟨va,p9,eI,cr⟩:=ZH4 (sv.out (wr.alloc (.cells (evArr e) 89)) e (ZY he) cJ.below) (λ W=>Zfm e e0 W (HR.out e (ZY he))) it cJ;clear hs he it cJ fk;by_cases dE:e.kind=k
   ·have kU:((e.kind:Int) != (k:Int))=false:=by simp[dE]
    have cE:=ZH dE;clear dE;go_wp2_with fail;refine va.out.mono ?_;rintro _ w3 ⟨rfl,bZ⟩;have jI:=mS.out.ob bZ;have nL:=eP.out.ob bZ;obtain⟨x0,x1,x2,x3,x4,x5,x6,x7,x8,x9,eE,eG⟩:=jI.ae;obtain⟨y0,y1,y2,y3,y4,y5,y6,y7,y8,y9,Tu,Tv⟩:=nL.ae;have kJ:=jI.lt;have yB:=nL.lt;obtain⟨cC,gV,qc⟩:=ZH3 (cr.out.step bZ) (Ze jG.out bZ) jI;clear bZ jI nL;rcases cI:same e with _ | _
    ·have hp:p e=true:=by rw[HP.out];simp[Zhr,cI]
     rw[if_pos hp] at eI;have dr:=cC.out.alloc (.cells (evArr e) 89);have gL:=Ze gV.out ((ZW w3.heap.size w3).alloc (ZL _) (.cells (evArr e) 89));have dQ:=dr.le;obtain⟨cZ,dt⟩:=ZH2 dr gL;clear dr gL;go_wp2_with (at_builtin;refine Zc _ rfl (.tmp 34) (.tmp 36) _ rfl w1.heap.size 89 i0 _ 12 112 underlying128 hi cM cG cK rfl ZO (.slice aa ((l.take q).filter p).length eV) ((l.take q).filter p).length (evCells ((l.take q).filter p)) rfl dt.out (w3.heap.size+1) (some ⟨w3.heap.size,0,none⟩) 1 1 (evArr e).toList rfl (ZbN w3 e) (ZaK e) ZF ZO dQ ?_;intro v7 w7 bX cN dP)
     have gM:w7.ownsRow w1.heap.size 89 12 v7 ((l.take (q+1)).filter p).length (evCells ((l.take (q+1)).filter p)):=by rw[eI.out];exact RowE.snoc bX
     have ik:Kept w1.heap.size w1 w7:=⟨cZ.out.below.grown cN cZ.out.le (λ g hg=>(Zb dt.out hg).1),ZT cZ.out.le cN.size⟩;obtain⟨gW,fd⟩:=ZH2 gM ik;go_wp2
     go_roundw
     case rel=>exact⟨q+1,ZO,ZN,gW,fd⟩
     case measure=>simp[intOf];omega
    ·go_wp2_with fail;refine(p9.out _).mono ?_;rintro _ w4 ⟨rfl,cz⟩;clear x0 x1 x2 x3 x4 x5 x6 x7 x8 x9 eE eG y0 y1 y2 y3 y4 y5 y6 y7 y8 y9 Tu Tv kJ yB;have ol:=qc.out.ob cz;obtain⟨x0,x1,x2,x3,x4,x5,x6,x7,x8,x9,eE,eG⟩:=ol.ae;have kJ:=ol.lt;obtain⟨fi,qY⟩:=ZH2 (cC.out.step cz) (Ze gV.out cz);clear cz ol;rcases r9:e.below e0 with _ | _
     ·have hp:p e=true:=by rw[HP.out];simp[Zhr,r9]
      rw[if_pos hp] at eI;have dr:=fi.out.alloc (.cells (evArr e) 89);have gL:=Ze qY.out ((ZW w4.heap.size w4).alloc (ZL _) (.cells (evArr e) 89));have dQ:=dr.le;obtain⟨cZ,dt⟩:=ZH2 dr gL;clear dr gL;go_wp2_with (at_builtin;refine Zc _ rfl (.tmp 34) (.tmp 36) _ rfl w1.heap.size 89 i0 _ 12 112 underlying128 hi cM cG cK rfl ZO (.slice aa ((l.take q).filter p).length eV) ((l.take q).filter p).length (evCells ((l.take q).filter p)) rfl dt.out (w4.heap.size+1) (some ⟨w4.heap.size,0,none⟩) 1 1 (evArr e).toList rfl (ZbN w4 e) (ZaK e) ZF ZO dQ ?_;intro v7 w7 bX cN dP)
      have gM:w7.ownsRow w1.heap.size 89 12 v7 ((l.take (q+1)).filter p).length (evCells ((l.take (q+1)).filter p)):=by rw[eI.out];exact RowE.snoc bX
      have ik:Kept w1.heap.size w1 w7:=⟨cZ.out.below.grown cN cZ.out.le (λ g hg=>(Zb dt.out hg).1),ZT cZ.out.le cN.size⟩;obtain⟨gW,fd⟩:=ZH2 gM ik;go_wp2
      go_roundw
      case rel=>exact⟨q+1,ZO,ZN,gW,fd⟩
      case measure=>simp[intOf];omega
     ·have hp:¬ p e=true:=by rw[HP.out];simp[Zhr,r9,cI,cE.out]
      rw[if_neg hp,List.append_nil] at eI;go_wp2
      go_roundw
      case rel=>exact⟨q+1,ZO,ZN,by rw[eI.out];exact qY,fi⟩
      case measure=>simp[intOf];omega
   ·have kU:((e.kind:Int) != (k:Int))=true:=ZP;have hp:p e=true:=by rw[HP.out];simp[Zhr,dE]
    rw[if_pos hp] at eI;clear dE;have dr:=cr.out.alloc (.cells (evArr e) 89);have gL:=Ze jG.out ((ZW _ _).alloc (ZL _) (.cells (evArr e) 89));have dQ:=dr.le;obtain⟨cZ,dt⟩:=ZH2 dr gL;clear dr gL;go_wp2_with (at_builtin;refine Zc _ rfl (.tmp 34) (.tmp 36) _ rfl w1.heap.size 89 i0 _ 12 112 underlying128 hi cM cG cK rfl ZO (.slice aa ((l.take q).filter p).length eV) ((l.take q).filter p).length (evCells ((l.take q).filter p)) rfl dt.out (wr.heap.size+1+1) (some ⟨wr.heap.size+1,0,none⟩) 1 1 (evArr e).toList rfl (ZdR _ _ _) (ZaK e) ZF ZO dQ ?_;intro v7 w7 bX cN dP)
    have gM:w7.ownsRow w1.heap.size 89 12 v7 ((l.take (q+1)).filter p).length (evCells ((l.take (q+1)).filter p)):=by rw[eI.out];exact RowE.snoc bX
    have ik:Kept w1.heap.size w1 w7:=⟨cZ.out.below.grown cN cZ.out.le (λ g hg=>(Zb dt.out hg).1),ZT cZ.out.le cN.size⟩;obtain⟨gW,fd⟩:=ZH2 gM ik;go_wp2
    go_roundw
    case rel=>exact⟨q+1,ZO,ZN,gW,fd⟩
    case measure=>simp[intOf];omega
  ·obtain rfl:q=n:=ZO;have gh:l.take q=l:=ZU (by rw[HL.out];exact ZL _);rw[gh] at HO;obtain⟨aa,eV,rfl,_⟩:=EvSl.ab HO.out;have oS:=di.out.size;go_wp2
   go_ret;exact⟨_,rfl,Zi HO.out oS,di.out.trans (HK.out.below.mono oS)⟩
def ZdG(e:Ev)(a:Ev):Bool:=decide (a.label=e.label)
def ZbY(e:Ev)(a:Ev):Bool:=decide (a.label=e.label)&&decide (a.value=e.value)
def ZaP(l:List Ev)(e:Ev):List Ev :=
 if e.kind=1 then l++[e] else if e.kind=2 then Zf2 (Zbn l e 1 (λ _=>true)) else if e.kind=3 then(if Zcv l e=true then Zbn l e 3 (ZdG e)++[e] else l)
 else if e.kind=5 then Zbn l e 4 (ZbY e) else(if Zcv l e=true then Zbn l e 4 (ZbY e)++[e] else l)
theorem ZpT(w:World)(a:Ev):Calls prog 195 #[Zaa a] w (Zv (.bool true) w):=by
 go_enter func195,ntmps195;go_wp2
 go_ret;exact⟨rfl,(ZW _ _).alloc (ZL _) _⟩
theorem Zks{w:World}{pe:Nat}{e:Ev}(he:Blk w pe 89 (evArr e))(a:Ev):
  Calls prog 197 #[Zaa a,.pointer (some ⟨pe,0,none⟩)] w (Zv (.bool (ZdG e a)) w):=by
 have el:=(ZW w.heap.size w).alloc (ZL _) (.cells (evArr a) 89);have fl:=he.ob el;obtain⟨e0,e1,e2,e3,e4,e5,e6,e7,e8,e9,iJ,ja⟩:=fl.ae;have fc:=he.lt;have HB:=ZH el;clear he fl el;go_enter func197,ntmps197;go_wp2
 go_ret;exact⟨by simp[ZdG,ZgP],HB.out⟩
theorem Zhn{w:World}{pe:Nat}{e:Ev}(he:Blk w pe 89 (evArr e))(a:Ev):
  Calls prog 198 #[Zaa a,.pointer (some ⟨pe,0,none⟩)] w (Zv (.bool (ZbY e a)) w):=by
 have el:=(ZW w.heap.size w).alloc (ZL _) (.cells (evArr a) 89);have fl:=he.ob el;obtain⟨e0,e1,e2,e3,e4,e5,e6,e7,e8,e9,iJ,ja⟩:=fl.ae;have fc:=he.lt;have HB:=ZH el;clear he fl el;go_enter func198,ntmps198;by_cases hk:a.label=e.label
 ·have cJ:((a.label:Int)==(e.label:Int))=true:=by simp[hk]
  have lZ:=ZH hk;clear hk;go_wp2
  go_ret;exact⟨by simp[ZbY,lZ.out,ZbV],HB.out⟩
 ·have cJ:((a.label:Int)==(e.label:Int))=false:=ZP;have lZ:=ZH hk;clear hk;go_wp2
  go_ret;exact⟨by simp[ZbY,lZ.out],HB.out⟩
theorem Zb4{w w':World}(hb:Below w.heap.size w w')(r:Option Nat):w.grownBy w' r:=⟨hb.os,hb.tape,hb.output,hb.size,λ k hk _=>hb.block k hk⟩
theorem Zff{W:World}{base:Nat}{v:Value}{es:List Ev}{e:Ev}(hr:W.ownsRow base 89 12 v (es.length+1) (evCells es++(evArr e).toList)):W.ownsRow base 89 12 v (es++[e]).length (evCells (es++[e])):=by
 have e1:evCells (es++[e])=evCells es++(evArr e).toList:=by simp[evCells]
 rw[e1,ZI];exact hr
def Zp1(L:List Ev)(v:Value)(w:World)(r:Ending)(w':World):Prop :=
 ∃ v',r = .returned v'/\w'.ownsRow 0 89 12 v' L.length (evCells L)/\w.grownBy w' v.ownBlock/\(v'.ownBlock=v.ownBlock∨∀ g,v'.ownBlock=some g->w.heap.size<=g)
theorem Zbq(l:List Ev)(e:Ev)(k:Nat)(same:Ev->Bool):(Zbn l e k same).length<=l.length:=List.length_filter_le _ _
theorem Zri{w:World}{v:Value}{l:List Ev}(e:Ev)(hr:w.ownsRow 0 89 12 v l.length (evCells l))(hn:l.length<=100000)(hl:∀ x∈l,x.r<5):
  Calls prog 164 #[v,Zaa e] w (Zp1 (ZaP l e) v w):=by
 obtain⟨a,cap,rfl,hs⟩:=EvSl.ab hr;obtain⟨n,Cf⟩:∃ n,n=l.length:=⟨_,rfl⟩;obtain⟨i0,hi,cM,cG,cK⟩:=info_parts Zbv;rw[←Cf] at hr hs hn ⊢;have el:=(ZW w.heap.size w).alloc (ZL _) (.cells (evArr e) 89);have hE:=ZBn w 89 (evArr e);obtain⟨dV,ez,HR,HL,HB,jM⟩:=ZH6 (hs.below el) (Ze hr el) hr hl el Cf;have vQ:=hE;obtain⟨x0,x1,x2,x3,x4,x5,x6,x7,x8,x9,eE,eG⟩:=vQ.ae;have kJ:=vQ.lt;have HE:=ZH hE;clear hr hs hl el hE vQ Cf;obtain⟨LL,fM⟩:∃ LL,LL=ZaP l e:=⟨_,rfl⟩;have oV:=ZH fM;rw[←fM];clear fM;go_enter func164,ntmps164;by_cases h1:e.kind=1
 ·have b1:((e.kind:Int)==1)=true:=by simp[h1]
  have o8:ZaP l e=l++[e]:=by simp[ZaP,h1]
  rw[o8] at oV;clear h1 o8;have dr:=(ZKr w).alloc (.cells (evArr e) 89) |>.alloc (.cells (evArr e) 89)
  have dt:=ZH (Ze ez.out ((ZW _ _).alloc (ZL _) (.cells (evArr e) 89)));have dQ:=dr.le;have cZ:=ZH dr;clear dr;go_wp2_with (at_builtin;refine Zc _ rfl (.tmp 10) (.tmp 12) _ rfl 0 89 i0 _ 12 112 underlying128 hi cM cG cK rfl ZO (.slice a n cap) n (evCells l) rfl dt.out (w.heap.size+1+1) (some ⟨w.heap.size+1,0,none⟩) 1 1 (evArr e).toList rfl (ZdR _ _ _) (ZaK e) ZF ZO (Nat.zero_le _) ?_;intro v7 w7 bX cN dP)
  obtain⟨qf,mQ,gW⟩:=ZH3 cN dP bX;clear cN dP bX;go_wp2
  go_ret;refine⟨v7,rfl,?_,?_,?_⟩
  ·rw[oV.out];have:=gW.out;rw[jM.out] at this;exact Zff this
  ·exact(Zb4 cZ.out.below _).trans qf.out
  ·rcases mQ.out with h | h
   ·exact .inl h
   ·refine .inr λ g hg=>?_
    rw[h] at hg;injection hg with hg;exact hg▸cZ.out.le
 ·have b1:((e.kind:Int)==1)=false:=ZP;by_cases h2:e.kind=2
  ·have b2:((e.kind:Int)==2)=true:=by simp[h2]
   have o8:ZaP l e=Zf2 (Zbn l e 1 (λ _=>true)):=by simp[ZaP,h2]
   rw[o8] at oV;clear h1 h2 o8;have ug:=Zdb dV.out ZO HL.out e 1 195 #[] (λ _=>true) (enters_of func195 ZK rfl) (λ W x _ _=>by simpa using ZpT W x);have rW:=ZH ug;clear ug;go_wp2_with fail;refine rW.out.mono ?_;rintro _ w3 ⟨v3,rfl,dB,bZ⟩;obtain⟨a3,dm,rfl,kQ⟩:=EvSl.ab dB;have pk:=ZH (HB.out.trans (bZ.mono HB.out.size));have sa:=Zl9 kQ (by have:=Zbq l e 1 (λ _=>true);have:=jM.out;omega) (λ x hx=>HL.out x ((List.mem_filter.1 hx).1));have xu:=ZH sa;clear dB bZ kQ sa;go_wp2_with fail;refine xu.out.mono ?_;rintro _ w4 ⟨v4,rfl,cd,cz⟩;have iN:=pk.out.trans (cz.mono pk.out.size);obtain⟨a4,iB,rfl,_⟩:=EvSl.ab cd;obtain⟨jl,zn⟩:=ZH2 cd iN;clear cd cz iN;go_wp2
   go_ret;exact⟨_,rfl,by rw[oV.out];exact Zi jl.out (Nat.zero_le _),Zb4 zn.out _,.inr λ g hg=>ZT pk.out.size (Zb jl.out hg).1⟩
  ·have b2:((e.kind:Int)==2)=false:=ZP;have xt:=ZH (ZhF (e:=e) dV.out ZO HL.out);by_cases h3:e.kind=3
   ·have b3:((e.kind:Int)==3)=true:=by simp[h3]
    have o8:ZaP l e=if Zcv l e=true then Zbn l e 3 (ZdG e)++[e] else l:=by simp[ZaP,h3]
    rw[o8] at oV;clear h1 h2 h3 o8;go_wp2_with fail;refine xt.out.mono ?_;rintro _ w3 ⟨rfl,bZ⟩;have pk:=ZH (HB.out.trans (bZ.mono HB.out.size));have jI:=HE.out.ob bZ;have kQ:=dV.out.below bZ;clear x0 x1 x2 x3 x4 x5 x6 x7 x8 x9 eE eG kJ;obtain⟨qc,iq⟩:=ZH2 jI kQ;clear bZ jI kQ;rcases mu:Zcv l e with _ | _
    ·rw[mu,if_neg ZM] at oV;go_wp2
     go_ret;have iN:=pk.out;exact⟨.slice a n cap,rfl,by rw[oV.out,←jM.out];exact Ze HR.out iN,Zb4 iN _,.inl rfl⟩
    ·rw[mu,if_pos rfl] at oV;go_wp2_with fail;refine wp_region_noPanic (ZcN (λ w'=>Kept w3.heap.size w3 w') [(0,3),(1,0),(2,3),(4,0)] 3 [(5,1),(6,2),(7,3)] 5 [(3,1),(6,2),(7,3)] ZK ZK (λ _ _ _ _ _ h=>h) (Kept.drew ⟨ZW _ _,ZL _⟩) (λ bR=>?_));repeat((first | refine ZSa ?_ | refine ZSb ?_ | (refine Zf rfl (by rfl) (λ w' ci=>by obtain⟨x0,x1,x2,x3,x4,x5,x6,x7,x8,x9,eE,eG⟩:=(qc.out.ob ci.below).ae;go_simp;with_reducible rfl) ?_));simp only[Act.put,ZA,ZB,ZC])
     refine Zfb (λ bR=>?_) (λ bR=>?_);focus
      refine ZSd λ K hK=>?_
      go_simp;refine(Zdb (w:=w3.drew) (iq.out.below (ZW _ _).drew) ZO HL.out e 3 197 #[.pointer (some ⟨w.heap.size,0,none⟩)] (ZdG e) (enters_of func197 ZK rfl) (λ W x _ hW=>by simpa using Zks (qc.out.drew.ob hW) x)).mono ?_;rintro _ w4 ⟨v4,rfl,cd,cz⟩;obtain⟨a4,iB,rfl,_⟩:=EvSl.ab cd;refine hK.out (λ w'=>Kept w3.heap.size w3 w') _ _ (λ _ h=>h) (bR.step cz) (λ jb=>?_);clear hK K;have dt:=ZH cd;clear cd;repeat((first | refine ZSa ?_ | refine ZSb ?_ | refine ZSc ?_);simp only[Act.put,ZA,ZB,ZC])
      refine ZSd λ K hK=>?_
      go_simp;refine hK.out (λ w'=>Kept w3.heap.size w3 w') _ _ (λ _ h=>h) (jb.alloc _) (λ ll=>?_);clear hK K;refine ZSe λ K hK=>?_
      refine ZaT _ (.tmp 30) (.tmp 32) _ rfl 0 89 i0 _ 12 112 underlying128 hi cM cG cK rfl ZO _ _ (evCells (Zbn l e 3 (ZdG e))) rfl (Zi (Ze dt.out ((ZW w4.heap.size w4).alloc (ZL _) (.cells (evArr e) 89))) (Nat.zero_le _)) (w4.heap.size+1) (some ⟨w4.heap.size,0,none⟩) 1 1 (evArr e).toList rfl (ZbN w4 e) (ZaK e) (by have:=Zbq l e 3 (ZdG e);have:=jM.out;simp only[maxLen];omega) (by have:=Zbq l e 3 (ZdG e);have:=jM.out;omega) (Nat.zero_le _) ?_;intro v7 w7 bX cN dP;obtain⟨jl,qf,mQ,qZ⟩:=ZH4 (Zff bX) cN dP (show ∀ g,Value.ownBlock _=some g->w.heap.size<=g from λ g hg=>ZT pk.out.size (Zb (Ze dt.out ((ZW w4.heap.size w4).alloc (ZL _) (.cells (evArr e) 89))) hg).1)
     rotate_left
     focus
      refine ZSd λ K hK=>?_
      go_simp;have hX:=ZBn w3.drew 89 (evArr e);have ye:=(ZW w3.drew.heap.size w3.drew).alloc (ZL _) (.cells (evArr e) 89);refine hK.out (λ w'=>Kept w3.heap.size w3 w') _ _ (λ _ h=>h) (bR.alloc (.cells (evArr e) 89)) (λ jb=>?_);clear hK K;obtain⟨HX,iX⟩:=ZH2 hX ye;clear hX ye;have ug:=Zdb (w:=w3.drew.alloc (.cells (evArr e) 89)) ((iq.out.below (ZW _ _).drew).below iX.out) ZO HL.out e 3 197 #[.pointer (some ⟨w.heap.size,0,none⟩)] (ZdG e) (enters_of func197 ZK rfl) (λ W x _ hW=>by simpa using Zks ((qc.out.drew.ob iX.out).ob hW) x);have rW:=ZH ug;clear ug;repeat((first | refine ZSa ?_ | refine ZSb ?_ | refine ZSc ?_);simp only[Act.put,ZA,ZB,ZC])
      refine ZSd λ K hK=>?_
      go_simp;refine rW.out.mono ?_;rintro _ w4 ⟨v4,rfl,cd,cz⟩;obtain⟨a4,iB,rfl,_⟩:=EvSl.ab cd;refine hK.out (λ w'=>Kept w3.heap.size w3 w') _ _ (λ _ h=>h) (jb.step cz) (λ ll=>?_);clear hK K;have dt:=ZH cd;have mr:=HX.out.ob cz;clear cd;refine ZSe λ K hK=>?_
      refine ZaT _ (.tmp 30) (.tmp 32) _ rfl 0 89 i0 _ 12 112 underlying128 hi cM cG cK rfl ZO _ _ (evCells (Zbn l e 3 (ZdG e))) rfl (Zi dt.out (Nat.zero_le _)) (w4.heap.size) (some ⟨w3.heap.size,0,none⟩) 1 1 (evArr e).toList rfl (Reads.ao (n:=1) (xs:=(evArr e).toList) mr rfl) (ZaK e) (by have:=Zbq l e 3 (ZdG e);have:=jM.out;simp only[maxLen];omega) (by have:=Zbq l e 3 (ZdG e);have:=jM.out;omega) (Nat.zero_le _) ?_;intro v7 w7 bX cN dP;obtain⟨jl,qf,mQ,qZ⟩:=ZH4 (Zff bX) cN dP (show ∀ g,Value.ownBlock _=some g->w.heap.size<=g from λ g hg=>ZT pk.out.size (Zb (Zi dt.out iX.out.size) hg).1)
     rotate_left
     all_goals
      have mU:=ZH ll;clear bX cN dP;refine hK.out _ _ ?_;clear hK K;repeat((first | refine ZSa ?_ | refine ZSb ?_ | refine ZSc ?_);simp only[Act.put,ZA,ZB,ZC])
      refine ZSf ?_;go_wp2
      go_ret;have pR:=pk.out.trans (mU.out.below.mono pk.out.size);have dx:Below w.heap.size w w7:=pR.grown qf.out pR.size qZ.out;refine⟨v7,rfl,by rw[oV.out];exact jl.out,Zb4 dx _,.inr λ g hg=>?_⟩;rcases mQ.out with h | h
      ·exact qZ.out g (h.symm.trans hg)
      ·rw[h] at hg;injection hg with hg;rw[←hg];exact pR.size
   ·have b3:((e.kind:Int)==3)=false:=ZP;by_cases h5:e.kind=5
    ·have b5:((e.kind:Int)==5)=true:=by simp[h5]
     have o8:ZaP l e=Zbn l e 4 (ZbY e):=by simp[ZaP,h5]
     rw[o8] at oV;clear h1 h2 h3 h5 o8 xt;have ug:=Zdb dV.out ZO HL.out e 4 198 #[.pointer (some ⟨w.heap.size,0,none⟩)] (ZbY e) (enters_of func198 ZK rfl) (λ W x _ hW=>by simpa using Zhn (HE.out.ob hW) x);have rW:=ZH ug;clear ug;go_wp2_with fail;refine rW.out.mono ?_;rintro _ w4 ⟨v4,rfl,cd,cz⟩;have iN:=HB.out.trans (cz.mono HB.out.size);obtain⟨a4,iB,rfl,_⟩:=EvSl.ab cd;obtain⟨jl,zn⟩:=ZH2 cd iN;clear cd cz iN;go_wp2
     go_ret;exact⟨_,rfl,by rw[oV.out];exact Zi jl.out (Nat.zero_le _),Zb4 zn.out _,.inr λ g hg=>ZT HB.out.size (Zb jl.out hg).1⟩
    ·have b5:((e.kind:Int)==5)=false:=ZP;have o8:ZaP l e=if Zcv l e=true then Zbn l e 4 (ZbY e)++[e] else l:=by simp[ZaP,h1,h2,h3,h5]
     rw[o8] at oV;clear h1 h2 h3 h5 o8;go_wp2_with fail;refine xt.out.mono ?_;rintro _ w3 ⟨rfl,bZ⟩;have pk:=ZH (HB.out.trans (bZ.mono HB.out.size));have jI:=HE.out.ob bZ;have kQ:=dV.out.below bZ;clear x0 x1 x2 x3 x4 x5 x6 x7 x8 x9 eE eG kJ;obtain⟨qc,iq⟩:=ZH2 jI kQ;clear bZ jI kQ;rcases mu:Zcv l e with _ | _
     ·rw[mu,if_neg ZM] at oV;go_wp2
      go_ret;have iN:=pk.out;exact⟨.slice a n cap,rfl,by rw[oV.out,←jM.out];exact Ze HR.out iN,Zb4 iN _,.inl rfl⟩
     ·rw[mu,if_pos rfl] at oV;go_wp2_with fail;refine wp_region_noPanic (ZcN (λ w'=>Kept w3.heap.size w3 w') [(0,3),(1,0),(2,3),(4,0)] 3 [(5,1),(6,2),(7,3)] 5 [(3,1),(6,2),(7,3)] ZK ZK (λ _ _ _ _ _ h=>h) (Kept.drew ⟨ZW _ _,ZL _⟩) (λ bR=>?_));repeat((first | refine ZSa ?_ | refine ZSb ?_ | (refine Zf rfl (by rfl) (λ w' ci=>by obtain⟨x0,x1,x2,x3,x4,x5,x6,x7,x8,x9,eE,eG⟩:=(qc.out.ob ci.below).ae;go_simp;with_reducible rfl) ?_));simp only[Act.put,ZA,ZB,ZC])
      refine Zfb (λ bR=>?_) (λ bR=>?_);focus
       refine ZSd λ K hK=>?_
       go_simp;refine(Zdb (w:=w3.drew) (iq.out.below (ZW _ _).drew) ZO HL.out e 4 198 #[.pointer (some ⟨w.heap.size,0,none⟩)] (ZbY e) (enters_of func198 ZK rfl) (λ W x _ hW=>by simpa using Zhn (qc.out.drew.ob hW) x)).mono ?_;rintro _ w4 ⟨v4,rfl,cd,cz⟩;obtain⟨a4,iB,rfl,_⟩:=EvSl.ab cd;refine hK.out (λ w'=>Kept w3.heap.size w3 w') _ _ (λ _ h=>h) (bR.step cz) (λ jb=>?_);clear hK K;have dt:=ZH cd;clear cd;repeat((first | refine ZSa ?_ | refine ZSb ?_ | refine ZSc ?_);simp only[Act.put,ZA,ZB,ZC])
       refine ZSd λ K hK=>?_
       go_simp;refine hK.out (λ w'=>Kept w3.heap.size w3 w') _ _ (λ _ h=>h) (jb.alloc _) (λ ll=>?_);clear hK K;refine ZSe λ K hK=>?_
       refine ZaT _ (.tmp 50) (.tmp 52) _ rfl 0 89 i0 _ 12 112 underlying128 hi cM cG cK rfl ZO _ _ (evCells (Zbn l e 4 (ZbY e))) rfl (Zi (Ze dt.out ((ZW w4.heap.size w4).alloc (ZL _) (.cells (evArr e) 89))) (Nat.zero_le _)) (w4.heap.size+1) (some ⟨w4.heap.size,0,none⟩) 1 1 (evArr e).toList rfl (ZbN w4 e) (ZaK e) (by have:=Zbq l e 4 (ZbY e);have:=jM.out;simp only[maxLen];omega) (by have:=Zbq l e 4 (ZbY e);have:=jM.out;omega) (Nat.zero_le _) ?_;intro v7 w7 bX cN dP;obtain⟨jl,qf,mQ,qZ⟩:=ZH4 (Zff bX) cN dP (show ∀ g,Value.ownBlock _=some g->w.heap.size<=g from λ g hg=>ZT pk.out.size (Zb (Ze dt.out ((ZW w4.heap.size w4).alloc (ZL _) (.cells (evArr e) 89))) hg).1)
      rotate_left
      focus
       refine ZSd λ K hK=>?_
       go_simp;have hX:=ZBn w3.drew 89 (evArr e);have ye:=(ZW w3.drew.heap.size w3.drew).alloc (ZL _) (.cells (evArr e) 89);refine hK.out (λ w'=>Kept w3.heap.size w3 w') _ _ (λ _ h=>h) (bR.alloc (.cells (evArr e) 89)) (λ jb=>?_);clear hK K;obtain⟨HX,iX⟩:=ZH2 hX ye;clear hX ye;have ug:=Zdb (w:=w3.drew.alloc (.cells (evArr e) 89)) ((iq.out.below (ZW _ _).drew).below iX.out) ZO HL.out e 4 198 #[.pointer (some ⟨w.heap.size,0,none⟩)] (ZbY e) (enters_of func198 ZK rfl) (λ W x _ hW=>by simpa using Zhn ((qc.out.drew.ob iX.out).ob hW) x);have rW:=ZH ug;clear ug;repeat((first | refine ZSa ?_ | refine ZSb ?_ | refine ZSc ?_);simp only[Act.put,ZA,ZB,ZC])
       refine ZSd λ K hK=>?_
       go_simp;refine rW.out.mono ?_;rintro _ w4 ⟨v4,rfl,cd,cz⟩;obtain⟨a4,iB,rfl,_⟩:=EvSl.ab cd;refine hK.out (λ w'=>Kept w3.heap.size w3 w') _ _ (λ _ h=>h) (jb.step cz) (λ ll=>?_);clear hK K;have dt:=ZH cd;have mr:=HX.out.ob cz;clear cd;refine ZSe λ K hK=>?_
       refine ZaT _ (.tmp 50) (.tmp 52) _ rfl 0 89 i0 _ 12 112 underlying128 hi cM cG cK rfl ZO _ _ (evCells (Zbn l e 4 (ZbY e))) rfl (Zi dt.out (Nat.zero_le _)) (w4.heap.size) (some ⟨w3.heap.size,0,none⟩) 1 1 (evArr e).toList rfl (Reads.ao (n:=1) (xs:=(evArr e).toList) mr rfl) (ZaK e) (by have:=Zbq l e 4 (ZbY e);have:=jM.out;simp only[maxLen];omega) (by have:=Zbq l e 4 (ZbY e);have:=jM.out;omega) (Nat.zero_le _) ?_;intro v7 w7 bX cN dP;obtain⟨jl,qf,mQ,qZ⟩:=ZH4 (Zff bX) cN dP (show ∀ g,Value.ownBlock _=some g->w.heap.size<=g from λ g hg=>ZT pk.out.size (Zb (Zi dt.out iX.out.size) hg).1)
      rotate_left
      all_goals
       have mU:=ZH ll;clear bX cN dP;refine hK.out _ _ ?_;clear hK K;repeat((first | refine ZSa ?_ | refine ZSb ?_ | refine ZSc ?_);simp only[Act.put,ZA,ZB,ZC])
       refine ZSf ?_;go_wp2
       go_ret;have pR:=pk.out.trans (mU.out.below.mono pk.out.size);have dx:Below w.heap.size w w7:=pR.grown qf.out pR.size qZ.out;refine⟨v7,rfl,by rw[oV.out];exact jl.out,Zb4 dx _,.inr λ g hg=>?_⟩;rcases mQ.out with h | h
       ·exact qZ.out g (h.symm.trans hg)
       ·rw[h] at hg;injection hg with hg;rw[←hg];exact pR.size
abbrev liveArr(d s:Int)(m:Option Nat)(size:Int):Array Value:=#[.int .u32 d,.int .i32 s,.int .u32 0,.map m,.int .i64 size]
theorem Zqv(w:World):Calls prog 127 #[] w λ r w'=>r = .returned (.pointer (some ⟨w.heap.size,0,none⟩))/\w'=w.alloc (.cells (liveArr 0 0 none 0) 213):=by
 go_enter func127,ntmps127;go_wp2
 go_ret;exact⟨rfl,rfl⟩
theorem disable(w:World):(callFunc 245 #[]).run prog w = .ok (.value (.tuple #[])) w:=run_call_mark0 func245 ZK ZK ZK .disable ZK w
theorem enable(w:World):(callFunc 247 #[]).run prog w = .ok (.value (.tuple #[])) w:=run_call_mark0 func247 ZK ZK ZK .enable ZK w
theorem acquire(a:Addr)(w:World):(callFunc 248 #[.pointer (some a)]).run prog w = .ok (.value (.tuple #[])) w:=run_call_marked func248 ZK ZK ZK .acquire ZK a w
theorem releaseMerge(a:Addr)(w:World):(callFunc 250 #[.pointer (some a)]).run prog w = .ok (.value (.tuple #[])) w:=run_call_marked func250 ZK ZK ZK .releaseMerge ZK a w
theorem ZjJ(a:Addr)(x:Value)(u:FrameMode)(w:World)(hc:w.cell? a=some x)(hz:w.frozen? a=false):
  CallsD prog 226 #[.pointer (some a),.bool true] u w λ e u' w'=>u'=u/\(e = .returned (.tuple #[])/\w'=w.drew.setCell a (.int .u32 1)):=by
 have EK:w.drew.cell? a=some x:=by go_simp
 have Td:w.drew.frozen? a=false:=by go_simp
 have ed:=run_call_store (P:=prog) func242 ZK ZK ZK ZK (k := .u32) (y:=1) EK Td;go_enter_d func226,ntmps226
 go_wp2
 go_region_calls
 all_goals(go_end0;exact⟨rfl,rfl⟩)
theorem Zjf(a:Addr)(u:FrameMode)(w:World)(hc:w.cell? a=some (.int .i32 1))(hz:w.frozen? a=false):
  CallsD prog 225 #[.pointer (some a)] u w λ e u' w'=>u'=u/\(e = .returned (.tuple #[])/\w'=w.setCell a (.int .i32 0)):=by
 have hd:=disable;have he:=enable;have hr:=releaseMerge;have Ew:=run_call_add (P:=prog) func251 ZK ZK ZK .i32 ZK (y := -1) (s:=0) hc hz (by simp[go_sem];rfl);have SD:=run_convert_to_unsafe (P:=prog) (src:=354) (dst:=358) underlying354 underlying358 ZK hc;go_enter_d func225,ntmps225
 go_wp2
 go_end0
 go_wp2
 go_end0
 exact⟨rfl,rfl⟩
theorem Zpb(a:Addr)(w:World)(hc:w.cell? a=some (.int .i32 0))(hz:w.frozen? a=false):
  Calls prog 224 #[.pointer (some a)] w λ e w'=>e = .returned (.tuple #[])/\w'=w.setCell a (.int .i32 1):=by
 have hd:=disable;have he:=enable;have ha:=acquire;have hcas:=run_call_cas_hit (P:=prog) func246 ZK ZK ZK .i32 ZK (y:=1) hc hz;have EK:(w.setCell a (.int .i32 1)).cell? a=some (.int .i32 1):=World.cell?_setCell_same w a _ hc;have SD:=run_convert_to_unsafe (P:=prog) (src:=354) (dst:=358) underlying354 underlying358 ZK EK;go_enter func224,ntmps224;go_wp2
 first | go_end0 | (simp only[Exit.inBlock,Exit.then];refine bodyPost_ret (results_none rfl _ _ _) rfl ?_) | refine bodyPost_ret (results_none rfl _ _ _) rfl ?_
 go_wp2
 go_end0
 exact⟨rfl,rfl⟩
theorem Zr3{w:World}{b pl:Nat}(hp:w.cell? ⟨pl,0,none⟩=some (.pointer (some ⟨b,0,none⟩))){d s size:Int}(hb:Blk w b 213 (liveArr d s none size)):
  Calls prog 163 #[.pointer (some ⟨pl,0,none⟩)] w λ r w'=>r = .returned (.tuple #[])/\w'=(w.setCell ⟨b,3,none⟩ (.map (some w.heap.size))).alloc (.map #[] 0):=by
 have ce:=hb.lt;have bW:=hb.alloc (.map #[] 0);have iP:(Instr.makeMap 197 none).run prog w = .ok (.map (some w.heap.size)) (w.alloc (.map #[] 0)):=by first | rfl | simp[Instr.makeMap,go_sem]
 have m3:=bW.cell 3;have f3:=bW.frozen 3;simp only[ZD,ZE,ZG] at m3;clear hb bW;go_enter func163,ntmps163;go_wp2_with fail;go_end0
 exact⟨rfl,rfl⟩
theorem Zct{w:World}{b:Nat}{d s size:Int}{m:Option Nat}(hb:Blk w b 213 (liveArr d s m size)):w.cell? ⟨b,0,none⟩=some (.int .u32 d)/\w.cell? ⟨b,1,none⟩=some (.int .i32 s)/\w.cell? ⟨b,2,none⟩=some (.int .u32 0)/\w.cell? ⟨b,3,none⟩=some (.map m)/\w.cell? ⟨b,4,none⟩=some (.int .i64 size) :=
 ⟨hb.cell 0,hb.cell 1,hb.cell 2,hb.cell 3,hb.cell 4⟩
def Zh8(b:Nat)(size:Int)(w:World)(r:Ending)(w':World):Prop:=r = .returned (.tuple #[])/\∃ m,Blk w' b 213 (liveArr 1 0 (some m) size)/\w'.heap[m]? = some (.map #[] 0)/\w.heap.size<=m/\w.grownBy w' (some b)
theorem ZeM(w:World)(b i:Nat)(v:Value):w.grownBy (w.setCell ⟨b,i,none⟩ v) (some b) :=
 ⟨rfl,rfl,rfl,by simp[World.setCell],λ k _ hn=>Below.heap_setCell _ _ _ _ (λ e=>hn (by rw[e]))⟩
theorem ZeL(w:World)(r:Option Nat):w.grownBy w.drew r:=⟨rfl,rfl,rfl,ZL _,λ _ _ _=>rfl⟩
theorem Zpm{w:World}{b pl:Nat}(hp:w.cell? ⟨pl,0,none⟩=some (.pointer (some ⟨b,0,none⟩))){size:Int}(hb:Blk w b 213 (liveArr 0 0 none size)):
  Calls prog 192 #[.pointer (some ⟨b,0,none⟩),.func (.func 163) #[] #[.pointer (some ⟨pl,0,none⟩)]] w (Zh8 b size w):=by
 have bS:Blk (w.setCell ⟨b,1,none⟩ (.int .i32 1)) b 213 (liveArr 0 1 none size):=hb.ai 1 (.int .i32 1);have jT:(w.setCell ⟨b,1,none⟩ (.int .i32 1)).cell? ⟨pl,0,none⟩=some (.pointer (some ⟨b,0,none⟩)):=(World.cell?_setCell_other _ ⟨b,1,none⟩ ⟨pl,0,none⟩ _ ZM).trans hp;obtain⟨c0,c1,c2,c3,c4⟩:=Zct hb;obtain⟨d0,d1,d2,d3,d4⟩:=Zct bS;have f1:=hb.frozen 1;have hl:=run_call_load (P:=prog) func223 ZK ZK ZK .u32 ZK d0;have dR:∀ (x:Bool) (w:World),(Op.unary .not (.bool x)).run prog w = .ok (.bool (!x)) w:=λ _ _=>rfl
 have ce:=hb.lt;obtain⟨HB,cL,Jl⟩:=ZH3 hb bS (Zr3 jT bS);clear hb bS;go_enter_defers func192,ntmps192
 go_wp2_with (first
  |(go_at_call 224;refine(Zpb ⟨b,1,none⟩ _ c1 f1).mono ?_;rintro e w' ⟨rfl,rfl⟩)
  |(go_at_call 191;go_in)
  |(go_at_call 163;refine Jl.out.mono ?_;rintro e w' ⟨rfl,rfl⟩))
 have bW:Blk (((w.setCell ⟨b,1,none⟩ (.int .i32 1)).setCell ⟨b,3,none⟩ (.map (some w.heap.size))).alloc (.map #[] 0)) b 213 (liveArr 0 1 (some w.heap.size) size):=((HB.out.ai 1 (.int .i32 1)).ai 3 (.map (some w.heap.size))).alloc _;have eN:w.grownBy (((w.setCell ⟨b,1,none⟩ (.int .i32 1)).setCell ⟨b,3,none⟩ (.map (some w.heap.size))).alloc (.map #[] 0)) (some b):=((ZeM w b 1 _).trans (ZeM _ b 3 _)).trans (Zb4 ((ZW _ _).alloc (ZL _) _) _);have jh:(((w.setCell ⟨b,1,none⟩ (.int .i32 1)).setCell ⟨b,3,none⟩ (.map (some w.heap.size))).alloc (.map #[] 0)).heap[w.heap.size]? = some (.map #[] 0):=by
  have h1:((w.setCell ⟨b,1,none⟩ (.int .i32 1)).setCell ⟨b,3,none⟩ (.map (some w.heap.size))).heap.size=w.heap.size:=by simp[World.setCell]
  have:=heap_alloc_new ((w.setCell ⟨b,1,none⟩ (.int .i32 1)).setCell ⟨b,3,none⟩ (.map (some w.heap.size))) (.map #[] 0);rw[h1] at this;exact this
 generalize (((w.setCell ⟨b,1,none⟩ (.int .i32 1)).setCell ⟨b,3,none⟩ (.map (some w.heap.size))).alloc (.map #[] 0))=W at *;refine leaves_cons (f:=226) (args:=#[.pointer (some ⟨b,0,none⟩),.bool true]) ZM (by simp[go_sem]) ?_;refine(ZjJ ⟨b,0,none⟩ (.int .u32 0) .returning _ (bW.cell 0) (bW.frozen 0)).mono ?_;rintro e u' ze ⟨rfl,rfl,rfl⟩;have bZ:Blk (W.drew.setCell ⟨b,0,none⟩ (.int .u32 1)) b 213 (liveArr 1 1 (some w.heap.size) size):=bW.drew.ai 0 _;refine leaves_cons (f:=225) (args:=#[.pointer (some ⟨b,1,none⟩)]) (by simp[settle]) (by simp[go_sem]) ?_;refine(Zjf ⟨b,1,none⟩ _ _ (bZ.cell 1) (bZ.frozen 1)).mono ?_;rintro e u' ze ⟨rfl,rfl,rfl⟩;have cz:Blk ((W.drew.setCell ⟨b,0,none⟩ (.int .u32 1)).setCell ⟨b,1,none⟩ (.int .i32 0)) b 213 (liveArr 1 0 (some w.heap.size) size):=bZ.ai 1 _;have dz:w.heap.size≠b:=ZO;have dx:Zh8 b size w (.returned (.tuple #[])) ((W.drew.setCell ⟨b,0,none⟩ (.int .u32 1)).setCell ⟨b,1,none⟩ (.int .i32 0)) :=
  ⟨rfl,w.heap.size,cz,(Below.heap_setCell _ _ _ _ dz).trans ((Below.heap_setCell _ _ _ _ dz).trans jh),ZL _,((eN.trans (ZeL W _)).trans (ZeM _ b 0 _)).trans (ZeM _ b 1 _)⟩
 simp[Leaves,settle,results,Tryz.results192];exact dx
theorem ZnY{w:World}{b pl:Nat}(hp:w.cell? ⟨pl,0,none⟩=some (.pointer (some ⟨b,0,none⟩))){size:Int}(hb:Blk w b 213 (liveArr 0 0 none size)):
  Calls prog 162 #[.pointer (some ⟨b,0,none⟩),.func (.func 163) #[] #[.pointer (some ⟨pl,0,none⟩)]] w (Zh8 b size w):=by
 obtain⟨c0,c1,c2,c3,c4⟩:=Zct hb;have hl:=run_call_load (P:=prog) func223 ZK ZK ZK .u32 ZK c0;have dR:∀ (x:Bool) (w:World),(Op.unary .not (.bool x)).run prog w = .ok (.bool (!x)) w:=λ _ _=>rfl
 have iZ:=ZH (Zpm hp hb);clear hb hp;go_enter func162,ntmps162
 go_wp2_with (first
  |(go_at_call 191;go_in)
  |(go_at_call 192;refine iZ.out.mono ?_;rintro e w' ⟨rfl,HM⟩))
 go_end0
 exact⟨rfl,HM⟩
theorem ZnX{w:World}{b:Nat}{m:Option Nat}{size:Int}(hb:Blk w b 213 (liveArr 1 0 m size))(fv:Value):
  Calls prog 162 #[.pointer (some ⟨b,0,none⟩),fv] w λ r w'=>r = .returned (.tuple #[])/\w'=w:=by
 obtain⟨c0,c1,c2,c3,c4⟩:=Zct hb;have hl:=run_call_load (P:=prog) func223 ZK ZK ZK .u32 ZK c0;have dR:∀ (x:Bool) (w:World),(Op.unary .not (.bool x)).run prog w = .ok (.bool (!x)) w:=λ _ _=>rfl
 clear hb;go_enter func162,ntmps162;go_wp2
 go_end0
 exact⟨rfl,rfl⟩
theorem Zry{w:World}{b:Nat}{d s:Int}{m:Option Nat}{size:Int}(hb:Blk w b 213 (liveArr d s m size))(n:Int):
  Calls prog 165 #[.pointer (some ⟨b,4,none⟩),.int .i64 n] w λ r w'=>(∃ v,r = .returned v)/\w'=w.setCell ⟨b,4,none⟩ (.int .i64 (wrap64 (size+n))):=by
 obtain⟨c0,c1,c2,c3,c4⟩:=Zct hb;have f4:=hb.frozen 4;have Ew:=run_call_add (P:=prog) func199 ZK ZK ZK .i64 ZK (y:=n) (s:=IntKind.i64.wrap (size+n)) c4 f4 (by simp[go_sem]);clear hb;go_enter func165,ntmps165;go_wp2
 go_ret;exact⟨⟨_,rfl⟩,rfl⟩
end Go.Proofs.YtjkfognelhiepaaGreat
