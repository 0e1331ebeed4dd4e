import Derived.Test.YtjkfognelhiepaaGreatR14
import Derived.Deep.Onto
namespace Go.Proofs.YtjkfognelhiepaaGreat
open Go.RowKit _root_.Go.Proofs.Tryz
open Value renaming slice→S_,int→I_,bool→B_,string→T_,pointer→P_
open IntKind renaming i64→J_
open Obj renaming cells→C_
open Ending renaming returned→R_
set_option maxRecDepth 100000
set_option maxHeartbeats 8000000
variable{f:Frm}{j k r s:Nat}{l:List Ev}{w:World}{y:PH}
abbrev SV:=SiteN×Value×Value
def siteL(q:SV):List Value:=[B_ q.1.up,I_ J_ q.1.clk.c0,I_ J_ q.1.clk.c1,I_ J_ q.1.clk.c2,I_ J_ q.1.clk.c3,I_ J_ q.1.clk.c4,I_ J_ q.1.sent,q.2.1,q.2.2]
structure SiteRows(B:Nat)(w:World)(v:Value)(l:List SV):Prop where
 row:w.ownsRow B 47 9 v l.length (l.flatMap siteL)
 held:∀q∈l,MarkRow B w q.2.1 q.1.held
 log:∀q∈l,MarkRow B w q.2.2 q.1.log
section
variable {B:Nat}{w w':World}{v:Value}{l:List SV}
theorem SiteRows.below(h:SiteRows B w v l)(hb:L_ w w'):SiteRows B w' v l :=
 ⟨Ze h.row hb,λq hq=>Ze (h.held q hq) hb,λq hq=>Ze (h.log q hq) hb⟩
theorem SiteRows.push{v7:Value}{s:SV}(h:SiteRows B w v l)(hg:w.grownBy w' v.ownBlock)(hr:w'.ownsRow B 47 9 v7 (l.length+1) (l.flatMap siteL++siteL s))(h0:MarkRow B w s.2.1 s.1.held)(h1:MarkRow B w s.2.2 s.1.log):SiteRows B w' v7 (l++[s]):=by
 refine⟨by rw[List.flatMap_append,ZI];simpa using hr,λp hp=>?_,λp hp=>?_⟩
 ·rcases List.mem_append.1 hp with hp|hp
  ·exact ZaK (h.held p hp) hg (Za6 (h.held p hp) h.row ZJ)
  ·obtain rfl:p=s:=by simpa using hp
   exact ZaK h0 hg (Za6 h0 h.row ZJ)
 ·rcases List.mem_append.1 hp with hp|hp
  ·exact ZaK (h.log p hp) hg (Za6 (h.log p hp) h.row ZJ)
  ·obtain rfl:p=s:=by simpa using hp
   exact ZaK h1 hg (Za6 h1 h.row ZJ)
theorem ZuU{α : Type}{L : α -> List Value}(hL:∀x,(L x).length=9):∀(ss:List α) (q:Nat) (s : α),ss[q]? = some s->∀j u,(L s)[j]? = some u->(ss.flatMap L)[q*9+j]? = some u:=by
 intro ss
 induction ss with
 |nil=>intro q s h;simp at h
 |cons x ss ih =>
  intro q s h j u hj;have hl:=hL x;rw[List.flatMap_cons]
  cases q with
  |zero =>
   simp at h;subst h;have:j<9:=by rw[←hl];exact(ZZ.1 hj).1
   rw[List.getElem?_append_left (by rw[hl];omega),Nat.zero_mul,Nat.zero_add];exact hj
  |succ q =>
   rw[List.getElem?_append_right (by rw[hl];omega),hl,show(q+1)*9+j-9=q*9+j by omega];exact ih q s (by simpa using h) j u hj
theorem SiteRows.at_(h:SiteRows B w v l){q:Nat}{s:SV}(hq:l[q]? = some s):∃g cap,v=S_ (some ⟨g,0,none⟩) l.length cap/\g<w.heap.size/\B<=g/\∀j u,(siteL s)[j]? = some u->w.cell? ⟨g,q*9+j,none⟩=some u:=by
 have cI:q<l.length:=(ZZ.1 hq).1;have hr:=h.row;obtain⟨a,cap,rfl⟩:=Zl hr;obtain⟨g,rfl,ez,hc⟩:=Zbm hr ZO;refine⟨g,cap,rfl,ez,(Zb hr (g:=g) rfl).1,λj u hj=>?_⟩;have h1:=ZuU (L:=siteL) (λ_=>rfl) l q s hq j u hj;exact(hc _ (ZZ.1 h1).1).trans h1
end
theorem Zt2:(prog.info? 47).map (λi=>(i.zero,i.size,i.bytes))=some (some (.agg #[B_ false,I_ J_ 0,I_ J_ 0,I_ J_ 0,I_ J_ 0,I_ J_ 0,I_ J_ 0,S_ none 0 0,S_ none 0 0]),9,104):=ZK
section
variable {own:Own}{t p m b:Nat}{w:World}{c:Cfg}{B:Bd}{x:WS}
theorem Zex(h:WorldAt own t w p c x)(hf:Fresh own w)(hi:WInv c B m b x)(hc:c.Ok)(hm:m<=100):
  Calls prog 22 #[ptrV p,I_ J_ c.n] w λe w'=>∃v l,e=R_ v/\SiteRows w.heap.size w' v l/\l.map (·.1)=(List.range c.n).map (λr=>siteN (x.nodes r).s)/\Below w.heap.size w w':=by
 obtain⟨i0,uX,dd,cV,dc⟩:=info_parts Zt2;have h5:=hc.n5;have HS:=ZH (λW (hw:Below w.heap.size w W) r (hr:r<c.n)=>Zhp (h.upd (ZUb (T:=λ_=>False) hw hf) (λ_ _ h=>h) (λh=>h) h5) (ZUb (T:=λ_=>False) hw hf).fresh hi hc hm hr);have HO:Hid (SiteRows w.heap.size (w.alloc (C_ #[] 47)) (S_ (some ⟨w.heap.size,0,none⟩) 0 0) []):=ZH ⟨Zj6 w 47 9,ZM,ZM⟩;have HK:=ZH ((ZKr w).alloc (C_ #[] 47));have HM:Hid (([]:List SV).map (·.1)=(List.range 0).map (λr=>siteN (x.nodes r).s)):=ZH rfl;clear h hf hi hc hm;go_enter func22,ntmps22;go_wp2_with fail;go_loopw [5,6] (λv i wr=>∃(q:Nat) (l:List SV),q<=c.n/\i=I_ J_ q/\Hid (SiteRows w.heap.size wr v l)/\Hid (l.map (·.1)=(List.range q).map (λr=>siteN (x.nodes r).s))/\Hid (Kept w.heap.size w wr)) (λ_ i _=>c.n-(intOf i).toNat)
 case atStart=>exact⟨0,[],ZO,rfl,HO,HM,HK⟩
 case round =>
  skip
  obtain⟨q,l,hq,rfl,HO,HM,HK⟩:=hrel;have fm:l.length=q:=by
   have:=congrArg List.length HM.out;simpa using this
  obtain⟨av,cv,rfl⟩:=Zl HO.out.row;by_cases du:q<c.n
  ·have gz:=ZH fm;go_wp2_with fail;refine(HS.out wr HK.out.below q du).mono ?_;rintro _ w1 ⟨vh,vl,rfl,Kx,sY,cz⟩;obtain⟨S,hS⟩:∃S,S=siteN (x.nodes q).s:=⟨_,rfl⟩;rw[←hS]at Kx sY ⊢;have IV:=Kx;have IW:=sY;obtain⟨ah,ch,rfl⟩:=Zl Kx;obtain⟨al,cl,rfl⟩:=Zl sY;have dS:w.heap.size<=wr.heap.size:=HK.out.le;have oC:=HO.out.below cz;have dI:=HK.out.step cz;have iX:=ZH (oC.below (((ZKr w1).alloc (C_ (Zp S.up S.clk S.sent (S_ ah S.held.length ch) (S_ al S.log.length cl)) 47)).below));have cX:=dI.alloc (C_ (Zp S.up S.clk S.sent (S_ ah S.held.length ch) (S_ al S.log.length cl)) 47);obtain⟨AZ,qw⟩:=ZH2 (Ze (IV.mono dS) (((ZKr w1).alloc (C_ (Zp S.up S.clk S.sent (S_ ah S.held.length ch) (S_ al S.log.length cl)) 47)).below)) (Ze (IW.mono dS) (((ZKr w1).alloc (C_ (Zp S.up S.clk S.sent (S_ ah S.held.length ch) (S_ al S.log.length cl)) 47)).below));have iT:Hid (Reads (w1.alloc (C_ (Zp S.up S.clk S.sent (S_ ah S.held.length ch) (S_ al S.log.length cl)) 47)) _ 9 (some ⟨w1.heap.size,0,none⟩) 1 (siteL (S,S_ ah S.held.length ch,S_ al S.log.length cl))):=ZH (Reads.aA (ZBn w1 47 _) rfl);have eE:=cX.le;obtain⟨DB,cO⟩:=ZH2 hS cX
   have gn:Hid (∀u∈siteL (S,S_ ah S.held.length ch,S_ al S.log.length cl),u.oneCell'=true):=ZH (λu hu=>by
    simp[siteL]at hu
    rcases hu with rfl|rfl|rfl|rfl|rfl|rfl|rfl|rfl|rfl <;> rfl)
   have nS:=iX.out.row;rw[gz.out]at nS ⊢;have fP:=ZH nS;clear cz Kx sY IV IW oC dI cX hS nS dS
   go_wp2_with (first
    |(at_builtin
      refine Zc _ rfl (.tmp 13) (.tmp 17) _ rfl w.heap.size 47 i0 _ 9 104 underlying52 uX dd cV dc rfl ZO (S_ av q cv) q (l.flatMap siteL) rfl fP.out _ (some ⟨w1.heap.size,0,none⟩) 1 1 (siteL (S,S_ ah S.held.length ch,S_ al S.log.length cl)) rfl iT.out gn.out ZF ZO eE ?_;intro v7 w7 cF db _;have fx:Hid (Kept w.heap.size w w7):=ZH (⟨cO.out.below.grown db cO.out.le (λg hg=>(Zb fP.out hg).1),ZT cO.out.le db.size⟩);obtain⟨qE,qt⟩:=ZH2 cF db
      clear cF db ))
   go_roundw
   case rel =>
    have Pb:SiteRows w.heap.size w7 v7 (l++[(S,S_ ah S.held.length ch,S_ al S.log.length cl)]):=by
     refine iX.out.push (by rw[gz.out];exact qt.out) ?_ AZ.out qw.out;rw[gz.out];exact qE.out
    exact⟨q+1,_,ZO,ZN,ZH Pb,ZH (by rw[List.map_append,HM.out,List.range_succ,List.map_append,DB.out];rfl),fx⟩
   case measure=>simp[intOf];omega
  ·obtain rfl:q=c.n:=ZO;go_wp2
   go_ret;exact⟨_,l,rfl,by rw[←fm]at *;exact HO.out,HM.out,HK.out.below⟩
end
def Apart2(l:List Ev):Prop:=l.Pairwise λa b=>¬(a.r=b.r/\a.n=b.n)
theorem ZeM{a:Ev}:Apart2 (a::l)↔(∀b∈l,¬(a.r=b.r/\a.n=b.n))/\Apart2 l:=List.pairwise_cons
theorem Apart2.eq:∀{l:List Ev},Apart2 l->∀{a b:Ev},a∈l->b∈l->a.r=b.r->a.n=b.n->a=b
 | [],_,_,_,ha,_,_,_=>by cases ha
 |x::l,h,a,b,ha,hb,hr,hn=>by
  obtain⟨h1,h2⟩:=ZeM.1 h;rcases List.mem_cons.1 ha with ea|Rw
  ·rcases List.mem_cons.1 hb with eb|jX
   ·rw[ea,eb]
   ·rw[ea]at hr hn;exact absurd ⟨hr,hn⟩ (h1 b jX)
  ·rcases List.mem_cons.1 hb with eb|jX
   ·rw[eb]at hr hn;exact absurd ⟨hr.symm,hn.symm⟩ (h1 a Rw)
   ·exact Apart2.eq h2 Rw jX hr hn
theorem ZjL{c:Clk}:∀{l gT:List Ev},Apart2 l->(∀e∈l,c.get e.r<e.n)->(∀a∈gT,∀b∈l,¬(a.r=b.r/\a.n=b.n))->l.foldl (ZcG c) gT=gT++l
 | [],gT,_,_,_=>ZM
 |e::l,gT,h,hc,ha=>by
  obtain⟨h1,h2⟩:=ZeM.1 h;have hf:ZbR e.r e.n gT=none:=by
   unfold ZbR;rw[List.find?_eq_none];intro x hx;simpa using ha x hx e ZM
  have hh:c.has e.r e.n=false:=by
   have:=hc e ZM;unfold Clk.has;exact decide_eq_false ZO
  have he:ZcG c gT e=gT++[e]:=by unfold ZcG;simp[hf,hh]
  rw[List.foldl_cons,he,ZjL h2 (λx hx=>hc x (List.mem_cons_of_mem _ hx)) (λa h3 b hb=>?_)]
  ·simp
  ·rcases List.mem_append.1 h3 with h3|h3
   ·exact ha a h3 b (List.mem_cons_of_mem _ hb)
   ·simp at h3;subst h3;exact h1 b hb
theorem Zlh{r n:Nat}{x:Ev}:∀{w:List Ev},Apart2 w->(x∈ZbY r n w↔x∈w/\¬(x.r=r/\x.n=n))
 | [],_=>by simp[ZbY]
 |y::w,h=>by
  obtain⟨h1,h2⟩:=ZeM.1 h;have ih:=Zlh (r:=r) (n:=n) (x:=x) h2;by_cases hy:y.r=r/\y.n=n
  ·have e:ZbY r n (y::w)=w:=by unfold ZbY;rw[List.eraseP_cons_of_pos (by simpa using hy)]
   rw[e,List.mem_cons];constructor
   ·intro hx;refine⟨.inr hx,λh3=>h1 x hx ⟨?_,?_⟩⟩
    ·rw[hy.1,h3.1]
    ·rw[hy.2,h3.2]
   ·rintro⟨h3|h3,h4⟩
    ·exact absurd (h3▸hy) h4
    ·exact h3
  ·have e:ZbY r n (y::w)=y::ZbY r n w:=by unfold ZbY;rw[List.eraseP_cons_of_neg (by simpa using hy)]
   rw[e,List.mem_cons,List.mem_cons,ih];constructor
   ·rintro(h3|⟨h3,h4⟩)
    ·exact⟨.inl h3,by rw[h3];exact hy⟩
    ·exact⟨.inr h3,h4⟩
   ·rintro⟨h3|h3,h4⟩
    ·exact .inl h3
    ·exact .inr ⟨h3,h4⟩
theorem Apart2.drop{n:Nat}{w:List Ev}(h:Apart2 w):Apart2 (ZbY r n w):=List.Pairwise.sublist (List.eraseP_sublist) h
theorem Chain.row(k:Nat):∀{l:List Ev} {c c':Clk},Chain c l c'->From1 (c.get k+1) (byR k l)
 | [],_,_,_=>λi e h=>by simp[byR]at h
 |e::l,c,c',h=>by
  obtain⟨h1,h2,h3,h4⟩:=h;have ih:=Chain.row k h4;by_cases hk:e.r=k
  ·subst hk;rw[Clk.aq _ h1]at ih;have e1:byR e.r (e::l)=e::byR e.r l:=by simp[byR]
   rw[e1];intro i x hx
   cases i with
   |zero=>simp at hx;subst hx;omega
   |succ i=>have:=ih i x (by simpa using hx);omega
  ·rw[Clk.ao _ hk]at ih;have e1:byR k (e::l)=byR k l:=by simp[byR,hk]
   rw[e1];exact ih
theorem Chain.split:∀{pre:List Ev} {e:Ev} {post:List Ev} {c c':Clk},Chain c (pre++e::post) c'->e.r<5/\e.n=(pre.foldl (λc e=>c.set e.r (c.get e.r+1)) c).get e.r+1/\e.ctx.le (pre.foldl (λc e=>c.set e.r (c.get e.r+1)) c)=true
 | [],_,_,_,_,h=>⟨h.1,h.2.1,h.2.2.1⟩
 |_::pre,_,_,_,_,h=>by
  have:=Chain.split (pre:=pre) h.2.2.2;exact this
theorem Chain.pre:∀{pre post:List Ev} {c c':Clk},Chain c (pre++post) c'->∃d,Chain c pre d/\Chain d post c'
 | [],_,c,_,h=>⟨c,rfl,h⟩
 |_::_,_,_,_,h=>by
  obtain⟨d,h1,h2⟩:=Chain.pre h.2.2.2;exact⟨d,⟨h.1,h.2.1,h.2.2.1,h1⟩,h2⟩
theorem Chain.app:∀{l m:List Ev} {c d e:Clk},Chain c l d->Chain d m e->Chain c (l++m) e
 | [],_,_,_,_,h,g=>by
  have:_=_:=h;subst this;exact g
 |_::_,_,_,_,_,h,g=>⟨h.1,h.2.1,h.2.2.1,Chain.app h.2.2.2 g⟩
theorem ZiL{P:Ev->Prop}:∀{l:List Ev},(∃e∈l,P e)->∃pre e post,l=pre++e::post/\P e/\∀x∈pre,¬P x
 | [],⟨_,h,_⟩=>by cases h
 |x::l,h=>by
  by_cases hx:P x
  ·exact⟨[],x,l,rfl,hx,ZM⟩
  ·obtain⟨e,he,hp⟩:=h;rcases List.mem_cons.1 he with rfl|he
   ·exact absurd hp hx
   ·obtain⟨pre,e',post,h1,h2,h3⟩:=ZiL ⟨e,he,hp⟩;refine⟨x::pre,e',post,by rw[h1];rfl,h2,λy hy=>?_⟩;rcases List.mem_cons.1 hy with rfl|hy
    ·exact hx
    ·exact h3 y hy
section
variable {hist:List Ev}{cE:Clk}{r:Nat}
theorem Zjf(h:Chain ZCz hist cE){e:Ev}(he:e∈hist):e.r<5:=by
 obtain⟨pre,post,rfl⟩:=List.append_of_mem he;exact h.split.1
theorem Zff(h:Chain ZCz hist cE)(k:Nat):From1 1 (byR k hist):=by
 have:=h.row k;rwa [ZbS]at this
theorem ZrT{pre post:List Ev}{e:Ev}(h:Chain ZCz (pre++e::post) cE):e.n=cnt e.r pre+1/\∀j,j<5->e.ctx.get j<=cnt j pre:=by
 obtain⟨d,h0,_⟩:=h.pre;have h5:∀x∈pre,x.r<5:=λx hx=>Zjf h0 hx
 obtain⟨h1,h2,h3⟩:=h.split;have e1:pre.foldl (λc e=>c.set e.r (c.get e.r+1)) ZCz=clkOf pre:=rfl;rw[e1]at h2 h3;refine⟨by rw[h2,ZeZ h5],λj hj=>?_⟩;have:=Clk.le_iff.1 h3 j hj;rwa [ZeZ h5]at this
theorem Zom(k:Nat)(pre post:List Ev):cnt k pre<=cnt k (pre++post):=by
 unfold cnt;rw[Zem,ZI];omega
theorem ZqX(h:Chain ZCz hist cE){c:Clk}{w:List Ev}(ha:Apart2 w)(hw:∀e,e∈w↔e∈hist/\e.r≠r/\c.get e.r<e.n)(hr:cnt r hist<=c.get r)(h0:w≠[]):∃e,Zbq c w=some e:=by
 obtain⟨x,hx⟩:=List.exists_mem_of_ne_nil w h0;obtain⟨pre,e,post,rfl,⟨h1,h2⟩,h3⟩:=ZiL (P:=λe=>e.r≠r/\c.get e.r<e.n) ⟨x,((hw x).1 hx).1,((hw x).1 hx).2⟩;obtain⟨k1,k2⟩:=ZrT h;obtain⟨d,hd,_⟩:=h.pre;have eE:∀k,k≠r->cnt k pre<=c.get k:=λk hk=>Zf2 (Zff hd k) λy hy Wj=>by
  have:=h3 y hy;rw[Wj]at this;omega
 have kj:e.n=c.get e.r+1:=by have:=eE e.r h1;omega
 have Od:e.ctx.le c=true:=Clk.le_iff.2 λj hj=>by
  have h4:=k2 j hj;by_cases R2:j=r
  ·subst R2;have:=Zom j pre (e::post);omega
  ·have:=eE j R2;omega
 have l6:e∈w:=(hw e).2 ⟨ZM,h1,h2⟩;have hf:ZbR e.r (c.get e.r+1) w=some e:=by
  cases hf:ZbR e.r (c.get e.r+1) w with
  |none =>
   unfold ZbR at hf;rw[List.find?_eq_none]at hf;exact absurd (by simp[kj]) (hf e l6)
  |some y =>
   obtain⟨m1,m2,m3⟩:=ZgS hf;rw[ha.eq m1 l6 m2 ZO]
 have iy:Zcm c w e.r=some e:=by
  unfold Zcm;rw[hf];simp[Od]
 cases hn:Zbq c w with
 |some y=>exact⟨y,rfl⟩
 |none =>
  unfold Zbq at hn;rw[List.findSome?_eq_none_iff]at hn;have:=hn e.r (by simpa using Zjf h (show e∈pre++e::post by simp));rw[iy]at this
  cases this
theorem ZoU(h:Chain ZCz hist cE):∀(f:Nat) (c:Clk) (w d:List Ev),w.length<=f->Apart2 w->(∀e,e∈w↔e∈hist/\e.r≠r/\c.get e.r<e.n)->cnt r hist<=c.get r->(∀k,k≠r->c.get k<=cnt k hist) ->
  (ZaS f c w d).2.1=[]/\(ZaS f c w d).2.2.get r=c.get r/\∀k,k≠r->(ZaS f c w d).2.2.get k=cnt k hist:=by
 have FD:∀(c:Clk) (w:List Ev),w=[]->(∀e,e∈w↔e∈hist/\e.r≠r/\c.get e.r<e.n)->(∀k,k≠r->c.get k<=cnt k hist)->∀k,k≠r->c.get k=cnt k hist:=λc w h0 hw eE k hk=>by
  refine Nat.le_antisymm (eE k hk) (Zf2 (Zff h k) λe he GE=>?_);have:¬(e∈hist/\e.r≠r/\c.get e.r<e.n):=λhx=>by
   have:=(hw e).2 hx;rw[h0]at this
   cases this
  by_cases cI:c.get e.r<e.n
  ·exact absurd ⟨he,by rw[GE];exact hk,cI⟩ this
  ·rw[GE]at cI;omega
 intro f
 induction f with
 |zero =>
  intro c w d hl ha hw hr eE;have h0:w=[]:=List.length_eq_zero_iff.1 ZO;exact⟨h0,rfl,FD c w h0 hw eE⟩
 |succ f ih =>
  intro c w d hl ha hw hr eE;unfold ZaS
  cases hn:Zbq c w with
  |none =>
   have h0:w=[]:=Classical.byContradiction λh0=>by
    obtain⟨e,he⟩:=ZqX h ha hw hr h0;rw[hn]at he
    cases he
   exact⟨h0,rfl,FD c w h0 hw eE⟩
  |some e =>
   obtain⟨g1,g2,g3,g4⟩:=Zlm hn;obtain⟨i1,i2,i3⟩:=(hw e).1 g1;have jn:(c.set e.r (c.get e.r+1)).get r=c.get r:=Clk.ao _ i2 _;have hlen:(ZbY e.r e.n w).length<=f:=by
    unfold ZbY;rw[List.length_eraseP_of_mem g1 ZM];omega
   have:=ih (c.set e.r (c.get e.r+1)) (ZbY e.r e.n w) (d++[e]) hlen ha.drop (λx=>?_) (by rw[jn];exact hr) (λk hk=>?_)
   ·simp only;rw[jn]at this;exact this
   ·rw[Zlh ha,hw x];by_cases hx:x.r=e.r
    ·rw[hx,Clk.aq _ g2];constructor
     ·rintro⟨⟨a1,a2,a3⟩,a4⟩;exact⟨a1,a2,by have:¬x.n=e.n:=λh=>a4 ⟨rfl,h⟩;omega⟩
     ·rintro⟨a1,a2,a3⟩;exact⟨⟨a1,a2,ZO⟩,λh=>by have:=h.2;omega⟩
    ·rw[Clk.ao _ (λh=>hx h.symm)];constructor
     ·rintro⟨a1,a2⟩;exact a1
     ·intro a1;exact⟨a1,λh=>hx h.1⟩
   ·by_cases Cr:e.r=k
    ·subst Cr;rw[Clk.aq _ g2];have:=(Zff h e.r).mem (ZeB.2 ⟨i1,rfl⟩);unfold cnt;omega
    ·rw[Clk.ao _ Cr];exact eE k hk
theorem Zqq(h:Chain ZCz hist cE){c:Clk}(ha:Apart2 l)(hl:∀e,e∈l↔e∈hist/\e.r≠r/\c.get e.r<e.n)(hr:cnt r hist<=c.get r)(eE:∀k,k≠r->c.get k<=cnt k hist):
  ZcI c l=[]/\(drained c l).2.2.get r=c.get r/\∀k,k≠r->(drained c l).2.2.get k=cnt k hist:=by
 have he:Zak c l=l:=by
  unfold Zak;rw[ZjL ha (λe he=>((hl e).1 he).2.2) (λa ha=>by cases ha)];rfl
 obtain⟨h1,h2,h3⟩:=ZoU h l.length c l [] (ZL _) ha hl hr eE;unfold ZcI drained;rw[he];refine⟨?_,h2,h3⟩;rw[h1];unfold Zcp;rw[List.filter_eq_nil_iff];intro e _;simp[ZbR]
end
theorem ZhS{s:Nat}:∀(l:List Clk) (a:Nat),l.foldl (λm c=>min m (c.get s)) a<=a/\∀y∈l,l.foldl (λm c=>min m (c.get s)) a<=y.get s
 | [],a=>⟨ZL _,λy h=>by cases h⟩
 |x::l,a=>by
  obtain⟨h1,h2⟩:=ZhS (s:=s) l (min a (x.get s));refine⟨ZT h1 (Nat.min_le_left _ _),λy hy=>?_⟩;rcases List.mem_cons.1 hy with rfl|hy
  ·exact ZT h1 (Nat.min_le_right _ _)
  ·exact h2 y hy
theorem ZhX{s v:Nat}:∀(l:List Clk) (a:Nat),v<=a->(∀y∈l,v<=y.get s)->v<=l.foldl (λm c=>min m (c.get s)) a
 | [],a,h,_=>h
 |x::l,a,h,hl=>ZhX l _ (Nat.le_min.2 ⟨h,hl x ZM⟩) λy hy=>hl y (List.mem_cons_of_mem _ hy)
theorem Zpg{told:List Clk}(hr:r<told.length):ZaV told s<=(told.getD r ZCz).get s:=by
 rw[List.getD_eq_getElem?_getD,ZX hr];exact(ZhS told _).2 _ (List.getElem_mem hr)
theorem Zpf{told:List Clk}{v:Nat}(h0:0<told.length)(h:∀r,r<told.length->v<=(told.getD r ZCz).get s):v<=ZaV told s:=by
 have eR:∀y∈told,v<=y.get s:=λy hy=>by
  obtain⟨i,hi,rfl⟩:=List.getElem_of_mem hy;have:=h i hi;rwa [List.getD_eq_getElem?_getD,ZX hi]at this
 refine ZhX told _ ?_ eR
 cases told with
 |nil=>simp at h0
 |cons x l=>exact eR x ZM
theorem ZmC{told:List Clk}{i:Nat}{y:Clk}(hi:i<told.length):(told.set i y).getD r ZCz=if r=i then y else told.getD r ZCz:=by
 rw[List.getD_eq_getElem?_getD,List.getD_eq_getElem?_getD];split
 ·rename_i h;rw[h,List.getElem?_set_self hi];rfl
 ·rename_i h;rw[List.getElem?_set_ne (λh'=>h h'.symm)]
structure ToldInv(n:Nat)(st:PostSt)(D:Nat->Nat->Nat):Prop where
 told:∀r,r<n->∀k,(st.2.getD r ZCz).get k<=D r k
 base:∀k s,st.1[k]? = some s->∀r,r<n->s.base<=(st.2.getD r ZCz).get k
section
variable {n r most:Nat}{st:PostSt}{D D':Nat->Nat->Nat}{l:List Ev}
theorem ToldInv.more(h:ToldInv n st D)(hD:∀r k,D r k<=D' r k):ToldInv n st D':=⟨λr hr k=>ZT (h.told r hr k) (hD r k),h.base⟩
theorem Zmt{told:List Clk}{r:Nat}{z:Sh}(hr:r<told.length)(h:z.base<=(told.getD r ZCz).get k):(cutSh told k z).base<=(told.getD r ZCz).get k :=
 Nat.max_le.2 ⟨h,ZT (Nat.min_le_left _ _) (Zpg hr)⟩
theorem ToldInv.push(h:ToldInv n st D)(hl:st.2.length=n):ToldInv n ((Zs most r l st.1 st.2).2.2,st.2) D:=by
 refine⟨h.told,λk s hs q hq=>?_⟩;simp only at hs;unfold Zs at hs;split at hs
 ·exact h.base k s hs q hq
 ·rename_i x hx;split at hs
  ·simp only[List.getElem?_set]at hs;split at hs
   ·rename_i hk;subst hk;split at hs
    ·injection hs with hs
     subst hs;exact Zmt ZO (h.base _ x hx q hq)
    ·cases hs
   ·exact h.base k s hs q hq
  ·exact h.base k s hs q hq
theorem ToldInv.bV(h:ToldInv n st D)(hl:st.2.length=n)(hr:r<n){k:Clk}(hk:∀i,k.get i<=D r i){told:List Clk}(ht:told=st.2.set r ((st.2.getD r ZCz).join k)):
  ToldInv n (Zav st.1 told st.1.length,told) D:=by
 have uV:∀q,told.getD q ZCz=if q=r then(st.2.getD r ZCz).join k else st.2.getD q ZCz:=λq=>by rw[ht];exact ZmC ZO
 have hlen:told.length=n:=by rw[ht,List.length_set];exact hl
 have Hk:∀q i,(st.2.getD q ZCz).get i<=(told.getD q ZCz).get i:=λq i=>by
  rw[uV];split
  ·rename_i h;rw[h,Zdq];exact Nat.le_max_left _ _
  ·exact ZL _
 refine⟨λq hq i=>?_,λi s hs q hq=>?_⟩
 ·simp only;rw[uV];split
  ·rename_i yt;rw[Zdq,yt];exact Nat.max_le.2 ⟨h.told r hr i,hk i⟩
  ·exact h.told q hq i
 ·simp only at hs ⊢;have hi:i<st.1.length:=by have:=(ZZ.1 hs).1;rw[Zcy]at this;exact this
  rw[Zed hi (ZX hi)]at hs;injection hs with hs;rw[←hs];exact Zmt ZO (ZT (h.base i _ (ZX hi) q hq) (Hk q i))
end
structure HistInv(st:PostSt)(hist:List Ev):Prop where
 chain:∃d,Chain ZCz hist d
 len:∀j,cnt j hist=hubLen st.1 j
 kept:∀k s,st.1[k]? = some s->s.kept=(byR k hist).drop s.base
section
variable {st:PostSt}{hist:List Ev}{c:Cfg}{B:Bd}{r:Nat}{l:List Ev}
theorem HistInv.init(c:Cfg):HistInv (initSt c) []:=by
 refine⟨⟨_,rfl⟩,λj=>?_,λk s hs=>?_⟩
 ·unfold hubLen lensOf;simp only[initSt,List.map_replicate,List.getD_eq_getElem?_getD,List.getElem?_replicate];split <;> rfl
 ·have:=ZY hs;simp[initSt]at this;rw[this.2];simp[byR]
theorem HistInv.cut(h:HistInv st hist){st':PostSt}(hl:∀j,hubLen st'.1 j=hubLen st.1 j)(hs:∀k s,st'.1[k]? = some s->∃z t,st.1[k]? = some z/\(s=z∨s=cutSh t k z)):HistInv st' hist:=by
 refine⟨h.chain,λj=>by rw[hl];exact h.len j,λk s hk=>?_⟩;obtain⟨z,t,h1,rfl|rfl⟩:=hs k s hk
 ·exact h.kept k _ h1
 ·have h2:=h.kept k z h1;have h3:z.base<=Za5 z.base z.kept.length (ZaV t k):=Nat.le_max_left _ _;show z.kept.drop (Za5 z.base z.kept.length (ZaV t k)-z.base)=(byR k hist).drop (Za5 z.base z.kept.length (ZaV t k))
  obtain⟨b,hb⟩:∃b,b=Za5 z.base z.kept.length (ZaV t k):=⟨_,rfl⟩;rw[←hb]at h3 ⊢;rw[h2,List.drop_drop];congr 1;omega
theorem ZkU{r:Nat}:∀{new:List Ev} {d:Clk},From1 (d.get r+1) new->(∀e∈new,e.r=r/\r<5/\e.ctx.get r+1=e.n/\∀j,j≠r->e.ctx.get j<=d.get j)->∃d',Chain d new d'
 | [],d,_,_=>⟨d,rfl⟩
 |e::new,d,hf,he=>by
  obtain⟨h1,h2,h3,h4⟩:=he e ZM;have hn:e.n=d.get r+1:=hf 0 e rfl;obtain⟨d',hd⟩:=ZkU (r:=r) (new:=new) (d:=d.set r (d.get r+1)) (by rw[Clk.aq _ h2];exact hf.tail) λx hx=>by
   obtain⟨g1,g2,g3,g4⟩:=he x (List.mem_cons_of_mem _ hx);exact⟨g1,g2,g3,λj hj=>by rw[Clk.ao _ (λh=>hj h.symm)];exact g4 j hj⟩
  refine⟨d',ZO,by rw[h1];exact hn,Clk.le_iff.2 λj _=>?_,by rw[h1];exact hd⟩;by_cases hj:j=r
  ·subst hj;omega
  ·exact h4 j hj
theorem Zoe{new:List Ev}(h:∀e∈new,e.r=r):byR k new=if k=r then new else []:=by
 unfold byR;split
 ·rename_i hk;rw[List.filter_eq_self];intro e he;simp[h e he,hk]
 ·rename_i hk;rw[List.filter_eq_nil_iff];intro e he;simp[h e he];exact λh=>hk h.symm
theorem HistInv.push(h:HistInv st hist)(hB:∀i,B.hub i=hubLen st.1 i)(hr:r<st.1.length)(eO:r<5)(he:∀e∈l,EvG c B e/\e.r=r){n0:Nat}(hf:From1 n0 l)(hn:n0<=hubLen st.1 r+1):
  ∃GR,HistInv ((Zs c.w r l st.1 st.2).2.2,st.2) GR:=by
 obtain⟨x,hx⟩:∃x,st.1[r]? = some x:=⟨_,ZX hr⟩;have ko:=Zdl hx;obtain⟨d,hd⟩:=h.chain;have h5:∀e∈hist,e.r<5:=λe he=>Zjf hd he
 have RF:∀j,d.get j=hubLen st.1 j:=λj=>by
  have h1:clkOf hist=d:=hd.clk;rw[←h1,ZeZ h5,h.len]
 have hlen:x.base+x.kept.length=cnt r hist:=by rw[h.len,ko];rfl
 have il:∀z:Sh,shLen z=shLen x->(z=x∨z=cutSh st.2 r x)->HistInv (st.1.set r z,st.2) hist:=λz hz pX=>by
  refine h.cut (λj=>?_) (λk s hk=>?_)
  ·simp only;rw[ZdP hr];split
   ·rename_i hj;rw[hj,hz,ko]
   ·rfl
  ·simp only[List.getElem?_set]at hk;split at hk
   ·rename_i ig;subst ig;injection hk with hk;subst hk;exact⟨x,st.2,hx,pX⟩
   ·exact⟨s,st.2,hk,.inl rfl⟩
 unfold Zs;rw[hx];simp only;by_cases hp:(Z0 c.w x.base x.kept l).1=0
 ·rw[ZPp hp];by_cases hk:(Z0 c.w x.base x.kept l).2=x.kept
  ·rw[hk];exact⟨hist,il _ (ZdG st.2 r x).1 (.inr rfl)⟩
  ·obtain⟨new,ik⟩:∃new,new=l.filter λe=>decide (x.base+x.kept.length<e.n):=⟨_,rfl⟩
   have lV:(Z0 c.w x.base x.kept l).2=x.kept++new:=by
    unfold Z0 at hk ⊢;simp only[←ik]at hk ⊢;split at hk
    ·exact absurd rfl hk
    ·rename_i h1;rw[ZPn h1];split at hk
     ·exact absurd rfl hk
     ·rename_i h2;rw[ZPn h2]
   rw[lV];have jD:hubLen st.1 r=x.base+x.kept.length:=ko;have CF:∀e∈new,e.r=r:=λe h=>(he e (List.mem_filter.1 (ik▸h)).1).2
   have V1:From1 (x.base+x.kept.length+1) new:=by
    have:=hf.drop (x.base+x.kept.length+1-n0);rw[←Zeq hf,←ik]at this;rwa [show n0+(x.base+x.kept.length+1-n0)=x.base+x.kept.length+1 by omega]at this
   obtain⟨d',oQ⟩:=ZkU (r:=r) (new:=new) (d:=d) (by rw[RF,jD];exact V1) λe kj=>by
    obtain⟨g1,g2⟩:=he e (List.mem_filter.1 (ik▸kj)).1;refine⟨g2,eO,by have:=g1.ok.own;rwa [g2]at this,λj hj=>?_⟩;rw[RF,←hB];exact g1.ctx j (by rw[g2];exact hj)
   have Oc:∀j,cnt j (hist++new)=cnt j hist+if j=r then new.length else 0:=λj=>by
    unfold cnt;rw[Zem,ZI,Zoe CF];split <;> simp
   have h1:HistInv (st.1.set r ⟨x.base,x.kept++new⟩,st.2) (hist++new):=by
    refine⟨⟨d',hd.app oQ⟩,λj=>?_,λk s hk=>?_⟩
    ·simp only;rw[ZdP hr,Oc];split
     ·rename_i hj;rw[hj,←hlen];unfold shLen;simp only[ZI];omega
     ·rw[h.len];rfl
    ·simp only[List.getElem?_set]at hk;rw[Zem,Zoe CF];split at hk
     ·rename_i ig;subst ig;injection hk with hk;subst hk;simp only[if_true];rw[List.drop_append_of_le_length (by unfold cnt at hlen;omega),←h.kept _ x hx]
     ·rename_i ig;rw[ZPn (λh=>ig h.symm),List.append_nil];exact h.kept k s hk
   refine⟨hist++new,h1.cut (λj=>?_) (λk s hk=>?_)⟩
   ·simp only;rw[ZdP hr,ZdP hr];split
    ·exact(ZdG st.2 r _).1
    ·rfl
   ·simp only[List.getElem?_set]at hk ⊢;split at hk
    ·rename_i ig;subst ig;injection hk with hk;subst hk;exact⟨_,st.2,by rw[ZPp rfl,ZPp hr],.inr rfl⟩
    ·rename_i ig;exact⟨s,st.2,by rw[ZPn ig];exact hk,.inl rfl⟩
 ·rw[ZPn hp];exact⟨hist,h⟩
theorem HistInv.bV(h:HistInv st hist)(told:List Clk):HistInv (Zav st.1 told st.1.length,told) hist:=by
 refine h.cut (λj=>?_) (λk s hk=>?_)
 ·unfold hubLen;simp only;rw[ZfS]
 ·have hi:k<st.1.length:=by have:=(ZZ.1 hk).1;simp only at this;rw[Zcy]at this;exact this
  simp only at hk;rw[Zed hi (ZX hi)]at hk;injection hk with hk;exact⟨_,told,ZX hi,.inr hk.symm⟩
end
def hasN(x:WS)(r k:Nat):Nat:=cnt k (nodeRecs (x.nodes r).rs).1
structure PastInv(c:Cfg)(x:WS):Prop where
 told:ToldInv c.n (repl c x.hub.rs) (hasN x)
 hist:∃hist,HistInv (repl c x.hub.rs) hist
 link:∀p∈x.link,p.2.kind=5->∀k,p.2.clock.get k<=hasN x p.2.r k
section
variable {c:Cfg}{B:Bd}{m b r:Nat}{x:WS}{y:PN}
theorem PastInv.new(c:Cfg):PastInv c (ZdZ c):=by
 refine⟨⟨λr hr k=>?_,λk s hs r hr=>?_⟩,⟨[],HistInv.init c⟩,λp hp=>by simp[ZdZ]at hp⟩
 ·have:(repl c (ZdZ c).hub.rs).2.getD r ZCz=ZCz:=by
   simp only[repl,ZdZ,Zji,ZbN,List.foldl_nil,initSt,List.getD_eq_getElem?_getD,List.getElem?_replicate];split <;> rfl
  rw[this,ZbS];exact Nat.zero_le _
 ·have:=ZY hs;simp[repl,ZdZ,Zji,ZbN,initSt]at this;rw[this.2];exact Nat.zero_le _
theorem PastInv.setNode(h:PastInv c x)(hy:∀k,cnt k (nodeRecs (x.nodes r).rs).1<=cnt k (nodeRecs y.rs).1):PastInv c ⟨Zbn x.nodes r y,x.hub,x.link⟩:=by
 have hm:∀q k,hasN x q k<=hasN ⟨Zbn x.nodes r y,x.hub,x.link⟩ q k:=λq k=>by
  unfold hasN;by_cases hq:q=r
  ·subst hq;simp only[ZbA];exact hy k
  ·simp only[Za7 hq];exact ZL _
 exact⟨h.told.more hm,h.hist,λp hp hk k=>ZT (h.link p hp hk k) (hm _ k)⟩
theorem Zim(d:Dk)(rs:List Frm)(f:Frm):ZaL d rs f=rs∨ZaL d rs f=rs++[f]:=by
 unfold ZaL;split
 ·exact .inl rfl
 ·split
  ·split
   ·exact .inr rfl
   ·exact .inl rfl
  ·exact .inr rfl
theorem Zfy{d:Dk}{rs:List Frm}(h:cnt k (nodeRecs rs).1<=cnt k (Zap (nodeRecs rs) f).1):cnt k (nodeRecs rs).1<=cnt k (nodeRecs (ZaL d rs f)).1:=by
 rcases Zim d rs f with h1|h1 <;> rw[h1]
 ·exact ZL _
 ·rw[Zb4];exact h
theorem Zjm{st:List Ev×Nat}(h3:f.kind≠4):cnt k st.1<=cnt k (Zap st f).1:=by
 unfold Zap;split
 ·exact ZL _
 ·exact Zom k _ _
theorem PastInv.aZ(h:PastInv c x)(hw:WInv c B m b x)(hc:c.Ok)(hf:HubFrm c B f)(hk:f.kind=5->∀k,f.clock.get k<=hasN x f.r k):PastInv c ⟨x.nodes,(Zh c x.hub f).1,x.link⟩:=by
 obtain⟨H,hH,hi,dJ⟩:=hw.hub;by_cases hu:x.hub.s.up=true
 ·obtain⟨g1,g2,g3⟩:=hi.up hu;have eU:=hi.inv;have h1:=h.told;obtain⟨hist,h2⟩:=h.hist;have eA:=hi.hub;rw[g3]at eU h1 h2 eA;have hl:=eU.len;have jc:=eU.len2;have gM:=hf.r;have h5:=hc.n5;have hB:=dJ hu;simp only at hl jc eA hB;have key:ToldInv c.n (repl c (ZdQ c x.hub f)) (hasN x)/\∃hist,HistInv (repl c (ZdQ c x.hub f)) hist:=by
   unfold ZdQ;rw[ZPn (by simp[hu])];have same:ToldInv c.n (repl c x.hub.rs) (hasN x)/\∃hist,HistInv (repl c x.hub.rs) hist:=⟨h.told,h.hist⟩;split
   ·rename_i dI;split
    ·exact same
    ·split
     ·exact same
     ·rcases Zim x.hub.s.d x.hub.rs (Zax f) with h3|h3 <;> rw[h3]
      ·exact same
      ·rw[Zhd,g3];have e1:ZbG c.w (x.hub.s.sh,x.hub.s.told) (Zax f)=((Zs c.w f.r f.events x.hub.s.sh x.hub.s.told).2.2,x.hub.s.told):=by
        unfold ZbG Zax;simp only[if_true]
       rw[e1];obtain⟨k1,n0,k2,k3⟩:=hf.evs dI;exact⟨h1.push (st:=(x.hub.s.sh,x.hub.s.told)) jc,h2.push (c:=c) (B:=B) (st:=(x.hub.s.sh,x.hub.s.told)) (λi=>by rw[hB];exact eA i) (by simp only;omega) ZO (λe he=>⟨k1 e he,(hf.ok.push dI).2 e he⟩) k2 (by simp only;rw[←eA f.r,←hB];exact k3)⟩
   ·split
    ·exact same
    ·rename_i dI dr;have eM:f.kind=5:=by have:=hf.kind;omega
     split
     ·exact same
     ·rcases Zim x.hub.s.d x.hub.rs (Zau f) with h3|h3 <;> rw[h3]
      ·exact same
      ·rw[Zhd,g3];have e1:ZbG c.w (x.hub.s.sh,x.hub.s.told) (Zau f)=(Zav x.hub.s.sh (x.hub.s.told.set f.r ((x.hub.s.told.getD f.r ZCz).join f.clock)) x.hub.s.sh.length,x.hub.s.told.set f.r ((x.hub.s.told.getD f.r ZCz).join f.clock)):=by
        unfold ZbG Zau;simp only;rw[ZPn ZO,ZPp trivial]
       rw[e1];exact⟨h1.bV (st:=(x.hub.s.sh,x.hub.s.told)) jc gM (hk eM) rfl,hist,h2.bV _⟩
  exact⟨key.1,key.2,h.link⟩
 ·rw[ZlP (by simpa using hu)];exact⟨h.told,h.hist,h.link⟩
theorem PastInv.aB(h:PastInv c x){y:PH}(hy:y.rs=x.hub.rs):PastInv c ⟨x.nodes,y,x.link⟩:=⟨by simp only[hy];exact h.told,by simp only[hy];exact h.hist,h.link⟩
theorem PastInv.aI(h:PastInv c x){l:List (Nat×Frm)}(hl:∀p∈l,p.2.kind=5->∀k,p.2.clock.get k<=hasN x p.2.r k):PastInv c ⟨x.nodes,x.hub,l⟩:=⟨h.told,h.hist,hl⟩
theorem Zjt(c:Cfg)(r:Nat)(y:PN)(f:Frm)(k:Nat):cnt k (nodeRecs y.rs).1<=cnt k (nodeRecs (Zaa c r y f).1.rs).1:=by
 unfold Zaa;split
 ·split
  ·unfold ZfC;simp only;split
   ·exact ZL _
   ·exact Zfy (Zjm (by simp[Zay]))
  ·unfold ZfB;simp only;split
   ·exact ZL _
   ·exact Zfy (Zjm (by simp[ZaG]))
 ·exact ZL _
theorem ZrZ(c:Cfg)(r:Nat)(y:PN)(kind label:Nat)(key value:ByteArray)(k:Nat):cnt k (nodeRecs y.rs).1<=cnt k (nodeRecs (Zbb c r y kind key label value).1.rs).1:=by
 unfold Zbb;simp only;split
 ·exact Zfy (Zjm (by simp[Z7]))
 ·exact ZL _
theorem Zrx(r:Nat)(y:PN)(k:Nat):cnt k (nodeRecs y.rs).1<=cnt k (nodeRecs (ZbI r y).1.rs).1:=by
 unfold ZbI;split <;> exact ZL _
theorem NodeInv.bD(h:NodeInv c r B b y)(k:Nat):cnt k (nodeRecs y.rs).1<=cnt k (nodeRecs (ZcU r y).1.rs).1:=by
 unfold ZcU;simp only;split
 ·rename_i hu;refine Zfy ?_;rw[(h.up hu).recs];exact ZL _
 ·exact ZL _
theorem NodeInv.bd(h:NodeInv c r B b y){kind:Nat}{g:Frm}(hg:(Za8 c r y.s kind).1=some g):g.r=r/\∀k,g.clock.get k<=cnt k (nodeRecs y.rs).1:=by
 have ht:∀q,(ZcV q r y.s).1=some g->g.r=r/\∀k,g.clock.get k<=cnt k (nodeRecs y.rs).1:=λq hg=>by
  unfold ZcV at hg;split at hg
  ·rename_i hu;injection hg with hg;subst hg;refine⟨rfl,λk=>?_⟩;rw[(h.up hu).recs];simp only[ZbO];rw[h.clk hu];exact ZL _
  ·cases hg
 unfold Za8 at hg;split at hg
 ·unfold Zfo at hg;split at hg
  ·split at hg
   ·cases hg
   ·injection hg with hg
    subst hg;exact⟨rfl,λk=>by simp only[ZbM];rw[ZbS];exact Nat.zero_le _⟩
  ·cases hg
 ·split at hg
  ·exact ht _ hg
  ·exact ht _ hg
theorem PastInv.bg(h:PastInv c x)(hw:WInv c B m b x)(hc:c.Ok)(hm:m<=100){p:Nat×Frm}(hp:FlG c B p)(hk:p.2.kind=5->∀k,p.2.clock.get k<=hasN x p.2.r k):PastInv c (Zcg c x p.1 p.2).1:=by
 unfold Zcg;rcases hp with ⟨hn,hf⟩|⟨h5,hf⟩
 ·rw[ZPp hn];exact h.setNode λk=>Zjt c p.1 _ p.2 k
 ·rw[ZPn (by have:=hc.n5;omega)];obtain⟨B',k1,k2,k3,k4,k5⟩:=hw.aO hc hm hf;refine(h.aZ hw hc hf hk).aI λq hq=>?_
  rcases List.mem_append.1 hq with hq|hq
  ·exact h.link q hq
  ·split at hq
   ·rename_i y hy;simp at hq;subst hq;have:=(k5 _ _ hy).1.kind;intro eM;omega
   ·cases hq
theorem PastInv.step(h:PastInv c x)(hw:WInv c B m b x)(hc:c.Ok)(hm:m<=99){s:St}:PastInv c (Z4 c x s).1:=by
 have h5:=hc.n5;unfold Z4;split
 ·unfold ZcN;split
  ·exact h
  ·split
   ·exact h
   ·rename_i p hp;have hg:=hw.link p (ZY hp);have vv:PastInv c ⟨x.nodes,x.hub,ZdT x s p⟩:=by
     refine h.aI λq hq=>h.link q ?_
     unfold ZdT at hq;split at hq
     ·exact hq
     ·exact List.mem_of_mem_eraseIdx hq
    split
    ·exact vv
    ·split
     ·exact vv
     ·exact vv.bg (hw.pick s p) hc ZO hg (h.link p (ZY hp))
 ·split
  ·unfold Zb5;split
   ·split
    ·exact h.setNode λk=>ZL _
    ·split
     ·exact h.setNode λk=>Zrx _ _ k
     ·exact h.setNode λk=>ZL _
   ·split
    ·split
     ·exact h.aB rfl
     ·split
      ·refine h.aB ?_;unfold ZbX;split <;> rfl
      ·exact h.aB rfl
    ·exact h
  ·split
   ·exact h
   ·rename_i hr;have Sl:s.r<c.n:=by simpa using hr
    split
    ·exact h.setNode λk=>ZrZ c s.r _ _ _ _ _ k
    ·split
     ·exact h.setNode λk=>(hw.nodes _ Sl).bD k
     ·unfold Zga;split
      ·rename_i g hg;refine h.aI λp hp=>?_
       rcases List.mem_append.1 hp with hp|hp
       ·exact h.link p hp
       ·simp at hp;subst hp;obtain⟨e1,e2⟩:=(hw.nodes _ Sl).bd hg;intro _ k;simp only;rw[e1];exact e2 k
      ·exact h
end
def sN(x:WS)(r:Nat):Nat:=(x.nodes r).s.sent
def clN(x:WS)(r k:Nat):Nat:=(x.nodes r).s.clk.get k
def lnN(x:WS)(k:Nat):Nat:=hubLen x.hub.s.sh k
def bsN(x:WS)(k:Nat):Nat:=(x.hub.s.sh.map (·.base)).getD k 0
def tdN(x:WS)(r k:Nat):Nat:=(x.hub.s.told.getD r ZCz).get k
structure NodeLive(y:PN):Prop where
 up:y.s.up=true
 cut:y.s.d.cut=false
 held:y.s.held=[]
structure Live(c:Cfg)(x:WS):Prop where
 hub:x.hub.s.up=true
 cut:x.hub.s.d.cut=false
 node:∀r,r<c.n->NodeLive (x.nodes r)
structure RI(c:Cfg)(M:Nat->Nat)(m b:Nat)(x:WS):Prop where
 w:∃B:Bd,B.made=M/\WInv c B m b x
 p:PastInv c x
 l:Live c x
structure Nums(c:Cfg)(M:Nat->Nat)(x:WS):Prop where
 own:∀r,r<c.n->clN x r r=M r
 cl:∀r,r<c.n->∀k,k≠r->clN x r k<=lnN x k
 ln:∀k,lnN x k<=M k
 s:∀r,r<c.n->sN x r<=lnN x r
 bs:∀k,bsN x k<=lnN x k
 td:∀r,r<c.n->∀k,tdN x r k<=clN x r k
 base:∀r,r<c.n->∀k,bsN x k<=tdN x r k
 shl:x.hub.s.sh.length=c.n
 tdl:x.hub.s.told.length=c.n
section
variable {c:Cfg}{M:Nat->Nat}{m b r:Nat}{x:WS}{B:Bd}
theorem Zgl{s:Sh}(h:x.hub.s.sh[k]? = some s):bsN x k=s.base:=by
 unfold bsN;rw[List.getD_eq_getElem?_getD,List.getElem?_map,h];rfl
theorem Zjd(h:x.hub.s.sh[k]? = none):bsN x k=0:=by
 unfold bsN;rw[List.getD_eq_getElem?_getD,List.getElem?_map,h];rfl
theorem RI.aF(h:RI c M m b x):Nums c M x:=by
 obtain⟨B,rfl,hw⟩:=h.w;obtain⟨H,hH,hi,dJ⟩:=hw.hub;obtain⟨g1,g2,g3⟩:=hi.up h.l.hub;have hB:=dJ h.l.hub;have ht:=h.p.told;have j5:=hi.inv;rw[g3]at ht j5;have oV:∀k,lnN x k=B.hub k:=λk=>by
  have:=hi.hub k;rw[g3]at this;rw[hB];exact this.symm
 have fg:∀r,r<c.n->∀k,clN x r k=cnt k (x.nodes r).s.log:=λr hr k=>(hw.nodes r hr).clk (h.l.node r hr).up k
 have oy:∀r,r<c.n->∀k,hasN x r k=clN x r k:=λr hr k=>by
  rw[fg r hr];unfold hasN;rw[((hw.nodes r hr).up (h.l.node r hr).up).recs]
 refine⟨λr hr=>?_,λr hr k hk=>?_,λk=>?_,λr hr=>?_,λk=>?_,λr hr k=>?_,λr hr k=>?_,j5.len,j5.len2⟩
 ·rw[fg r hr,hw.own r hr,(hw.nodes r hr).cd (h.l.node r hr).up]
 ·rw[fg r hr,oV];exact((hw.nodes r hr).log (h.l.node r hr).up).bt hk
 ·rw[oV,hB];exact hi.bG k
 ·rw[oV];exact((hw.nodes r hr).log (h.l.node r hr).up).sentH
 ·cases hs:x.hub.s.sh[k]? with
  |none=>rw[Zjd hs];exact Nat.zero_le _
  |some s =>
   rw[Zgl hs];unfold lnN;rw[Zdl hs];exact Nat.le_add_right _ _
 ·rw[←oy r hr];exact ht.told r hr k
 ·cases hs:x.hub.s.sh[k]? with
  |none=>rw[Zjd hs];exact Nat.zero_le _
  |some s=>rw[Zgl hs];exact ht.base k s hs r hr
theorem Zhq{d:Dk}(h1:d.down=false)(h2:d.cut=false)(b:List Nat):d.write b=(⟨d.bytes++b,false,false,d.keep⟩,0):=by
 unfold Dk.write;simp[h1,h2]
theorem ZlQ(hu:y.s.up=true)(hk:f.kind=3):Zh c y f=(y,some (f.r,Zbc f.r (Zad y.s.sh f.r f.clock y.s.sh.length)),0):=by
 have n1:(y.s.up=false)=False:=by simp[hu]
 have n2:(f.kind=1)=False:=by simp[hk]
 have n3:(f.kind=3)=True:=by simp[hk]
 simp only[Zh,Zaq,ZdQ,n1,n2,n3,if_false,if_true]
theorem ZnK(hu:y.s.up=true)(hd:y.s.d.down=false)(hc:y.s.d.cut=false)(hk:f.kind=5):
  (Zh c y f).1.s.up=true/\(Zh c y f).1.s.d.cut=false/\(Zh c y f).1.s.sh=Zav y.s.sh (Z8 y.s.told f) y.s.sh.length/\(Zh c y f).1.s.told=Z8 y.s.told f/\(Zh c y f).2.1=none:=by
 have n1:(y.s.up=false)=False:=by simp[hu]
 have n2:(f.kind=1)=False:=by simp[hk]
 have n3:(f.kind=3)=False:=by simp[hk]
 simp only[Zh,Zaq,n1,n2,n3,if_false,Zhq hd hc,if_true];split
 ·exact⟨rfl,hc,rfl,rfl,rfl⟩
 ·exact⟨rfl,rfl,rfl,rfl,rfl⟩
theorem ZmE(hu:y.s.up=true)(hd:y.s.d.down=false)(hc:y.s.d.cut=false)(hk:f.kind=1):
  (Zh c y f).1.s.up=true/\(Zh c y f).1.s.d.cut=false/\(Zh c y f).1.s.sh=(Zs c.w f.r f.events y.s.sh y.s.told).2.2/\(Zh c y f).1.s.told=y.s.told /\
   (Zh c y f).2.1=if (Zs c.w f.r f.events y.s.sh y.s.told).2.1=0 then some (f.r,ZaE f.r (Zs c.w f.r f.events y.s.sh y.s.told).1) else none:=by
 have n1:(y.s.up=false)=False:=by simp[hu]
 have n2:(f.kind=1)=True:=by simp[hk]
 simp only[Zh,Zaq,n1,n2,if_false,if_true,Zhq hd hc];by_cases h1:(Zs c.w f.r f.events y.s.sh y.s.told).2.1=0
 ·rw[ZPp h1,ZPn (show ¬(Zs c.w f.r f.events y.s.sh y.s.told).2.1≠0 by simp[h1])];split
  ·exact⟨rfl,hc,rfl,rfl,rfl⟩
  ·exact⟨rfl,rfl,rfl,rfl,rfl⟩
 ·rw[ZPn h1,ZPp h1];exact⟨rfl,hc,rfl,rfl,rfl⟩
theorem Zgk{s:NodeSt}(hu:s.up=true)(hd:s.d.down=false)(hc:s.d.cut=false)(f:Frm):(Zy s f).2=0/\(Zy s f).1.up=true/\(Zy s f).1.d.cut=false:=by
 unfold Zy;rw[Zhq hd hc];simp only[if_true];exact⟨trivial,hu,trivial⟩
theorem ZjX{y:PN}(hl:NodeLive y)(hd:y.s.d.down=false)(hk:f.kind=2):
  NodeLive (Zaa c r y f).1/\(Zaa c r y f).1.s.log=y.s.log/\(Zaa c r y f).1.s.clk=y.s.clk/\(Zaa c r y f).1.s.sent=max y.s.sent (min f.upto (y.s.clk.get r)):=by
 unfold Zaa ZfC Zdf;rw[ZPp hl.up,ZPp hk];simp only;by_cases hp:ZaP r y.s f.upto=y.s.sent
 ·rw[ZPp hp];exact⟨⟨hl.up,hl.cut,hl.held⟩,rfl,rfl,hp.symm⟩
 ·rw[ZPn hp];obtain⟨h1,h2,h3⟩:=Zgk hl.up hd hl.cut (Zay r (ZaP r y.s f.upto));obtain⟨k1,k2,k3,k4,k5,k6⟩:=ZbD y.s (Zay r (ZaP r y.s f.upto));rw[ZPp h1];exact⟨⟨h2,h3,by simp only;rw[k5];exact hl.held⟩,k1,k4,rfl⟩
theorem ZjW{y:PN}(hl:NodeLive y)(hd:y.s.d.down=false)(hk:f.kind=4)(pL:ZcI y.s.clk f.events=[]):
  NodeLive (Zaa c r y f).1/\(∃l,(Zaa c r y f).1.s.log=y.s.log++l)/\(Zaa c r y f).1.s.clk=(drained y.s.clk f.events).2.2/\(Zaa c r y f).1.s.sent=y.s.sent:=by
 unfold Zaa ZfB Zdb;rw[ZPp hl.up,ZPn ZO,hl.held,List.nil_append,pL];simp only[List.length_nil];rw[ZPn ZO];have e1:(Zcb y.s f.events).up=true:=hl.up;have e2:(Zcb y.s f.events).d.down=false:=hd;have e3:(Zcb y.s f.events).d.cut=false:=hl.cut;have e4:(Zcb y.s f.events).held=[]:=by unfold Zcb;simp only;rw[hl.held,List.nil_append];exact pL
 have e5:(Zcb y.s f.events).clk=(drained y.s.clk f.events).2.2:=by unfold Zcb;simp only;rw[hl.held,List.nil_append]
 by_cases hz:(drained y.s.clk f.events).1=[]
 ·rw[ZPp hz];exact⟨⟨e1,e3,e4⟩,⟨[],by simp[Zcb]⟩,e5,rfl⟩
 ·rw[ZPn hz];obtain⟨h1,h2,h3⟩:=Zgk e1 e2 e3 (ZaG r (drained y.s.clk f.events).1);obtain⟨k1,k2,k3,k4,k5,k6⟩:=ZbD (Zcb y.s f.events) (ZaG r (drained y.s.clk f.events).1);rw[ZPp h1];refine⟨⟨h2,h3,?_⟩,⟨(drained y.s.clk f.events).1,?_⟩,?_,?_⟩
  ·unfold Zbv;simp only;rw[k5,e4]
  ·unfold Zbv;simp only;rw[k1];rfl
  ·unfold Zbv;simp only;rw[k4,e5]
  ·unfold Zbv;simp only;rw[k2];rfl
theorem From1.apart:∀{l:List Ev} {n:Nat},From1 n l->Apart2 l
 | [],_,_=>List.Pairwise.nil
 |e::l,n,h=>ZeM.2 ⟨λy hy=>by
   have h1:=h.tail.mem hy;have h2:e.n=n:=h 0 e rfl
   omega,From1.apart h.tail⟩
theorem ZiK{sh:List Sh}{r:Nat}{k:Clk}(h:∀(i:Nat) (s:Sh),sh[i]? = some s->(∀e∈s.kept,e.r=i)/\From1 (s.base+1) s.kept):∀n,Apart2 (Zad sh r k n)
 | 0=>List.Pairwise.nil
 |n+1=>by
  unfold Zad;refine List.pairwise_append.2 ⟨ZiK h n,?_,λa ha b hb=>?_⟩
  ·split
   ·rename_i s hs;split
    ·exact List.Pairwise.nil
    ·exact(h n s hs).2.apart.filter _
   ·exact List.Pairwise.nil
  ·obtain⟨i,s,h1,h2,h3,h4,h5⟩:=Zfh.1 ha;have hai:=(h i s h3).1 a h4;split at hb
   ·rename_i z hz;split at hb
    ·cases hb
    ·have gW:=(h n z hz).1 b (List.mem_filter.1 hb).1;omega
   ·cases hb
theorem ZqV(h:From1 1 l){e:Ev}(he:e∈l)(hk:k<e.n):e∈l.drop k:=by
 obtain⟨j,hj,rfl⟩:=List.getElem_of_mem he;have h1:=h j _ (ZX hj);refine ZY (i:=j-k) ?_;rw[List.getElem?_drop,show k+(j-k)=j by omega];exact ZX hj
theorem RI.bM(h:RI c M m b x)(hr:r<c.n):ZcI (x.nodes r).s.clk (Zad x.hub.s.sh r (x.nodes r).s.clk x.hub.s.sh.length)=[] /\
  (drained (x.nodes r).s.clk (Zad x.hub.s.sh r (x.nodes r).s.clk x.hub.s.sh.length)).2.2.get r=clN x r r/\∀k,k≠r->(drained (x.nodes r).s.clk (Zad x.hub.s.sh r (x.nodes r).s.clk x.hub.s.sh.length)).2.2.get k=lnN x k:=by
 have hn:=h.aF;obtain⟨B,_,hw⟩:=h.w;obtain⟨H,hH,hi,dJ⟩:=hw.hub;obtain⟨g1,g2,g3⟩:=hi.up h.l.hub;obtain⟨hist,hh⟩:=h.p.hist;have j5:=hi.inv;rw[g3]at hh j5;obtain⟨d,hd⟩:=hh.chain;have hlen:∀k,cnt k hist=lnN x k:=hh.len;have:=Zqq (r:=r) hd (c:=(x.nodes r).s.clk) (l:=Zad x.hub.s.sh r (x.nodes r).s.clk x.hub.s.sh.length) (ZiK (λi s hs=>⟨λe he=>((j5.sh i s hs).all e he).2,(j5.sh i s hs).row⟩) _) (λe=>?_) (by rw[hlen];exact ZT (hn.ln r) (Nat.le_of_eq (hn.own r hr).symm)) (λk hk=>by rw[hlen];exact hn.cl r hr k hk)
 ·exact⟨this.1,this.2.1,λk hk=>(this.2.2 k hk).trans (hlen k)⟩
 ·rw[Zfh];constructor
  ·rintro⟨i,s,h1,h2,h3,h4,h5⟩;have he:=h4;rw[hh.kept i s h3]at he;obtain⟨k1,k2⟩:=ZeB.1 (List.mem_of_mem_drop he);exact⟨k1,by rw[k2];exact h2,by rw[k2];exact h5⟩
  ·rintro⟨h1,h2,h3⟩;have hm:e∈byR e.r hist:=ZeB.2 ⟨h1,rfl⟩;have eN:0<cnt e.r hist:=by unfold cnt;exact List.length_pos_of_mem hm
   have cI:e.r<x.hub.s.sh.length:=by
    rcases Nat.lt_or_ge e.r x.hub.s.sh.length with h|h
    ·exact h
    ·rw[hlen]at eN;unfold lnN hubLen lensOf at eN;rw[List.getD_eq_getElem?_getD,List.getElem?_eq_none (by simpa using h)]at eN;simp at eN
   refine⟨e.r,_,cI,h2,ZX cI,?_,h3⟩;have hs:=ZX cI;rw[hh.kept _ _ hs];refine ZqV (Zff hd e.r) hm ?_;have h4:=hn.base r hr e.r;rw[Zgl hs]at h4;have h5:=hn.td r hr e.r;unfold clN at h5;omega
end
structure Adv(c:Cfg)(x x':WS):Prop where
 s:∀r,r<c.n->sN x r<=sN x' r
 cl:∀r,r<c.n->∀k,clN x r k<=clN x' r k
 ln:∀k,lnN x k<=lnN x' k
 bs:∀k,bsN x k<=bsN x' k
 td:∀r,r<c.n->∀k,tdN x r k<=tdN x' r k
 log:∀r,r<c.n->∃l,(x'.nodes r).s.log=(x.nodes r).s.log++l
theorem Adv.refl(c:Cfg)(x:WS):Adv c x x:=⟨λ_ _=>ZL _,λ_ _ _=>ZL _,λ_=>ZL _,λ_=>ZL _,λ_ _ _=>ZL _,λ_ _=>⟨[],ZM⟩⟩
theorem Adv.trans{c:Cfg}{x y z:WS}(h:Adv c x y)(g:Adv c y z):Adv c x z :=
 ⟨λr hr=>ZT (h.s r hr) (g.s r hr),λr hr k=>ZT (h.cl r hr k) (g.cl r hr k),λk=>ZT (h.ln k) (g.ln k),λk=>ZT (h.bs k) (g.bs k),λr hr k=>ZT (h.td r hr k) (g.td r hr k),λr hr=>by
  obtain⟨l,h1⟩:=h.log r hr;obtain⟨l',h2⟩:=g.log r hr
  exact⟨l++l',by rw[h2,h1,List.append_assoc]⟩⟩
theorem Zq7{w sent:Nat}{sh:List Sh}{told:List Clk}{z:Sh}(hz:sh[r]? = some z)(hf:From1 (sent+1) l)(hs:sent<=shLen z):
  ((Zs w r l sh told).2.1=0->(Zs w r l sh told).1=max (shLen z) (sent+l.length)/\∃z',(Zs w r l sh told).2.2=sh.set r z'/\shLen z'=max (shLen z) (sent+l.length)/\z.base<=z'.base) /\
  ((Zs w r l sh told).2.1≠0->(Zs w r l sh told).2.2=sh)/\(z.kept.length+l.length<=w->(Zs w r l sh told).2.1=0):=by
 obtain⟨new,ik⟩:∃new,new=l.filter λe=>decide (z.base+z.kept.length<e.n):=⟨_,rfl⟩
 have GD:new=l.drop (z.base+z.kept.length+1-(sent+1)):=by rw[ik];exact Zeq hf _
 have fS:new.length=l.length-(z.base+z.kept.length-sent):=by rw[GD,List.length_drop];omega
 have eT:∀y:Sh,shLen (cutSh told r y)=shLen y/\y.base<=(cutSh told r y).base:=λy=>⟨(ZdG told r y).1,Nat.le_max_left _ _⟩
 have eW:shLen z=z.base+z.kept.length:=rfl;unfold Zs;rw[hz];simp only;have lV:Z0 w z.base z.kept l=if new.length=0 then(0,z.kept) else if w<z.kept.length+new.length then(21,z.kept) else(0,z.kept++new):=by
  unfold Z0;rw[ik]
 rw[lV];by_cases h0:new.length=0
 ·rw[ZPp h0];simp only[if_true];obtain⟨h1,h2⟩:=eT ⟨z.base,z.kept⟩;have hm:max (shLen z) (sent+l.length)=shLen z:=Nat.max_eq_left ZO;refine⟨λ_=>⟨by rw[hm];exact h1,_,rfl,by rw[hm];exact h1,h2⟩,λh=>absurd rfl h,λ_=>trivial⟩
 ·rw[ZPn h0];by_cases h1:w<z.kept.length+new.length
  ·rw[ZPp h1];simp only;rw[ZPn ZO];refine⟨λh=>?_,λ_=>rfl,λh=>ZO⟩;simp only at h
   cases h
  ·rw[ZPn h1];simp only[if_true];obtain⟨h2,h3⟩:=eT ⟨z.base,z.kept++new⟩;have hm:shLen ⟨z.base,z.kept++new⟩=max (shLen z) (sent+l.length):=by
    unfold shLen;simp only[ZI];unfold shLen at hs;omega
   exact⟨λ_=>⟨by rw[←hm];exact h2,_,rfl,by rw[←hm];exact h2,h3⟩,λh=>absurd rfl h,λ_=>trivial⟩
theorem Zsz{l d w g M:Nat}(h1:l<=M)(h2:M=s+d)(h3:g=min w d):max l (s+g)<=M:=ZO
theorem Zq6{l d w g M:Nat}(h1:s<M)(h2:M=s+d)(h3:g=min w d)(h4:1<=w):s<max l (s+g):=ZO
section
variable {c:Cfg}{M:Nat->Nat}{m b r:Nat}{x:WS}
theorem Zrm(x:WS)(r q:Nat)(y:PN)(h:PH)(l:List (Nat×Frm)):sN ⟨Zbn x.nodes r y,h,l⟩ q=if q=r then y.s.sent else sN x q:=by
 unfold sN Zbn;simp only;split <;> rfl
theorem Zok(x:WS)(r q k:Nat)(y:PN)(h:PH)(l:List (Nat×Frm)):clN ⟨Zbn x.nodes r y,h,l⟩ q k=if q=r then y.s.clk.get k else clN x q k:=by
 unfold clN Zbn;simp only;split <;> rfl
theorem Live.setNode(h:Live c x){y:PN}(hy:NodeLive y){ph:PH}(h1:ph.s.up=true)(h2:ph.s.d.cut=false){l:List (Nat×Frm)}:Live c ⟨Zbn x.nodes r y,ph,l⟩:=by
 refine⟨h1,h2,λq hq=>?_⟩;simp only;by_cases e:q=r
 ·subst e;rw[ZbA];exact hy
 ·rw[Za7 e];exact h.node q hq
structure Told1(c:Cfg)(M:Nat->Nat)(x x':WS)(r:Nat):Prop where
 adv:Adv c x x'
 ln:∀k,k≠r->lnN x' k=lnN x k
 bs:∀k,k≠r->bsN x' k=bsN x k
 s:∀q,q≠r->sN x' q=sN x q
 cl:∀q k,clN x' q k=clN x q k
 td:∀q k,tdN x' q k=tdN x q k
 go:sN x r<M r->bsN x r=lnN x r->sN x r<sN x' r
 got:lnN x' r≠lnN x r->sN x' r=lnN x' r
theorem Told1.no(h:sN x r=M r):Told1 c M x x r:=⟨Adv.refl c x,λ_ _=>rfl,λ_ _=>rfl,λ_ _=>rfl,λ_ _=>rfl,λ_ _=>rfl,λh1=>ZO,λh1=>absurd rfl h1⟩
theorem RI.push(h:RI c M m b x)(hc:c.Ok)(hm:m<=100)(hb:b<=700)(hr:r<c.n):RI c M m b (Z5 c r x 1)/\Told1 c M x (Z5 c r x 1) r:=by
 have hn:=h.aF;obtain⟨B,rfl,hw⟩:=h.w;have hy:=h.l.node r hr;have vR:=hw.nodes r hr;have dJ:=vR.up hy.up;have nC:=vR.log hy.up;obtain⟨B',_,zn,mU⟩:=hw.tell hc hm hb hr 1;have Ky:(x.nodes r).s.wait=(byR r (x.nodes r).s.log).drop (x.nodes r).s.sent:=by rw[dJ.wait];exact nC.wait
 have eW:=hn.s r hr;have cY:sN x r<=B.made r:=ZT eW (hn.ln r);obtain⟨d,Oe⟩:∃d,B.made r=sN x r+d:=⟨_,(Nat.add_sub_cancel' cY).symm⟩;have vO:(x.nodes r).s.wait.length=d:=by
  have h1:=vR.aK hy.up;rw[←vR.clk hy.up]at h1;have h2:=hn.own r hr;unfold clN at h2;rw[h2,Oe]at h1;rw[h1];exact Nat.add_sub_cancel_left _ _
 have iQ:(Za8 c r (x.nodes r).s 1).1=if (x.nodes r).s.wait.length=0 then none else some (ZbM r ((x.nodes r).s.wait.take c.w)):=by
  unfold Za8 Zfo;rw[ZPp rfl,ZPp hy.up];split <;> rfl
 by_cases hz:(x.nodes r).s.wait.length=0
 ·have e:Z5 c r x 1=x:=by
   unfold Z5;rw[iQ,ZPp hz]
  rw[e];exact⟨h,Told1.no (by have:=hn.s r hr;have:=hn.ln r;omega)⟩
 ·rw[ZPn hz]at iQ;obtain⟨g,hg⟩:∃g,g=ZbM r ((x.nodes r).s.wait.take c.w):=⟨_,rfl⟩;rw[←hg]at iQ;have lr:g.events=(x.nodes r).s.wait.take c.w:=by rw[hg];rfl
  have jo:g.r=r:=by rw[hg];rfl
  have Ki:From1 (sN x r+1) g.events:=by
   rw[lr,Ky];have:=((nC.row r).drop (x.nodes r).s.sent).take c.w;rwa [Nat.add_comm]at this
  have ez:g.events.length=min c.w d:=by rw[lr,ZV,vO]
  obtain⟨z,dS⟩:∃z,x.hub.s.sh[r]? = some z:=⟨_,ZX (by rw[hn.shl];exact hr)⟩;have m9:lnN x r=shLen z:=Zdl dS;have BW:=Zgl (x:=x) dS;have dD:=hc.w1;obtain⟨H,hH,hi,_⟩:=hw.hub;have hd:=(hi.up h.l.hub).1;obtain⟨p1,p2,p3,p4,p5⟩:=ZmE (c:=c) h.l.hub hd h.l.cut (show g.kind=1 by rw[hg];rfl);rw[jo]at p3 p5;obtain⟨q1,q2,q3⟩:=Zq7 (w:=c.w) (told:=x.hub.s.told) dS Ki (by rw[←m9];exact eW);have hp:PastInv c ⟨x.nodes,(Zh c x.hub g).1,x.link⟩:=by
   refine h.p.aZ hw hc ((vR.tell hr hc (ZT hw.sum hm) iQ).1) λhk=>?_
   rw[hg]at hk
   cases hk
  have e:Z5 c r x 1=Zbz c x (Zh c x.hub g):=by unfold Z5;rw[iQ]
  rw[e]at mU ⊢;by_cases iL:(Zs c.w r g.events x.hub.s.sh x.hub.s.told).2.1=0
  ·rw[ZPp iL]at p5;obtain⟨k1,z',k2,k3,k4⟩:=q1 iL;obtain⟨f,hf⟩:∃f,f=ZaE r (Zs c.w r g.events x.hub.s.sh x.hub.s.told).1:=⟨_,rfl⟩;rw[←hf]at p5;have e1:Zbz c x (Zh c x.hub g)=⟨Zbn x.nodes r (Zaa c r (x.nodes r) f).1,(Zh c x.hub g).1,x.link⟩:=by unfold Zbz;rw[p5]
   rw[e1]at mU ⊢;obtain⟨t1,t2,t3,t4⟩:=ZjX (r:=r) hy dJ.down (f:=f) (by rw[hf];rfl);have VN:f.upto=max (lnN x r) (sN x r+g.events.length):=by rw[hf,m9];exact k1
   have hmax:max (lnN x r) (sN x r+g.events.length)<=B.made r:=Zsz (hn.ln r) Oe ez;have uM:(x.nodes r).s.clk.get r=B.made r:=hn.own r hr;have Ix:(Zaa c r (x.nodes r) f).1.s.sent=max (lnN x r) (sN x r+g.events.length):=by
    rw[t4,VN,uM];have:(x.nodes r).s.sent=sN x r:=rfl;omega
   obtain⟨x',oY⟩:∃x':WS,x'=⟨Zbn x.nodes r (Zaa c r (x.nodes r) f).1,(Zh c x.hub g).1,x.link⟩:=⟨_,rfl⟩;have hS:∀q,sN x' q=if q=r then max (lnN x r) (sN x r+g.events.length) else sN x q:=λq=>by rw[oY,Zrm,Ix]
   have hC:∀q k,clN x' q k=clN x q k:=λq k=>by
    rw[oY,Zok];split
    ·rename_i hq;rw[t3,hq];rfl
    ·rfl
   have im:x'.hub.s.sh=x.hub.s.sh.set r z':=by rw[oY];simp only;rw[p3];exact k2
   have vH:x'.hub.s.told=x.hub.s.told:=by rw[oY];exact p4
   have kT:r<x.hub.s.sh.length:=by rw[hn.shl];exact hr
   have hL:∀k,lnN x' k=if k=r then max (lnN x r) (sN x r+g.events.length) else lnN x k:=λk=>by
    unfold lnN;rw[im,ZdP kT,k3];have:shLen z=hubLen x.hub.s.sh r:=m9.symm;rw[this]
   have zp:∀k,bsN x' k=if k=r then z'.base else bsN x k:=λk=>by
    unfold bsN;rw[im,List.map_set,List.getD_eq_getElem?_getD,List.getD_eq_getElem?_getD];split
    ·rename_i hk;rw[hk,List.getElem?_set_self (by simpa using kT)];rfl
    ·rename_i hk;rw[List.getElem?_set_ne (λh=>hk h.symm)]
   have hT:∀q k,tdN x' q k=tdN x q k:=λq k=>by unfold tdN;rw[vH]
   rw[←oY]at mU ⊢;refine⟨⟨⟨B',zn,mU⟩,?_,?_⟩,⟨⟨λq _=>?_,λq _ k=>by rw[hC];exact ZL _,λk=>?_,λk=>?_,λq _ k=>by rw[hT];exact ZL _,λq hq=>?_⟩,λk hk=>by rw[hL,ZPn hk],λk hk=>by rw[zp,ZPn hk],λq hq=>by rw[hS,ZPn hq],hC,hT,λh1 _=>?_,λ_=>?_⟩⟩
   ·rw[oY];exact hp.setNode λk=>Zjt c r _ f k
   ·rw[oY];exact h.l.setNode t1 p1 p2
   ·rw[hS];split
    ·rename_i hq;rw[hq];omega
    ·exact ZL _
   ·rw[hL];split
    ·rename_i hq;rw[hq];omega
    ·exact ZL _
   ·rw[zp];split
    ·rename_i hq;rw[hq,BW];exact k4
    ·exact ZL _
   ·rw[oY];simp only;by_cases yt:q=r
    ·subst yt;rw[ZbA,t2];exact⟨[],ZM⟩
    ·rw[Za7 yt];exact⟨[],ZM⟩
   ·rw[hS,ZPp rfl];exact Zq6 h1 Oe ez dD
   ·rw[hS,hL,ZPp rfl,ZPp rfl]
  ·rw[ZPn iL]at p5;have e1:Zbz c x (Zh c x.hub g)=⟨x.nodes,(Zh c x.hub g).1,x.link⟩:=by unfold Zbz;rw[p5]
   rw[e1]at mU ⊢;have im:(Zh c x.hub g).1.s.sh=x.hub.s.sh:=by rw[p3];exact q2 iL
   have hL:∀k,lnN ⟨x.nodes,(Zh c x.hub g).1,x.link⟩ k=lnN x k:=λk=>by unfold lnN;rw[im]
   have zp:∀k,bsN ⟨x.nodes,(Zh c x.hub g).1,x.link⟩ k=bsN x k:=λk=>by unfold bsN;rw[im]
   have hT:∀q k,tdN ⟨x.nodes,(Zh c x.hub g).1,x.link⟩ q k=tdN x q k:=λq k=>by unfold tdN;rw[p4]
   refine⟨⟨⟨B',zn,mU⟩,hp,⟨p1,p2,h.l.node⟩⟩,⟨⟨λq _=>ZL _,λq _ k=>ZL _,λk=>by rw[hL];exact ZL _,λk=>by rw[zp];exact ZL _,λq _ k=>by rw[hT];exact ZL _,λq _=>⟨[],ZM⟩⟩,λk _=>hL k,λk _=>zp k,λq _=>rfl,λ_ _=>rfl,hT,λh1 h2=>?_,λh1=>absurd (hL r) h1⟩⟩;refine absurd (q3 ?_) iL;rw[BW,m9]at h2;unfold shLen at h2;omega
structure Told2(c:Cfg)(x x':WS)(r:Nat):Prop where
 adv:Adv c x x'
 ln:∀k,lnN x' k=lnN x k
 bs:∀k,bsN x' k=bsN x k
 s:∀q,sN x' q=sN x q
 td:∀q k,tdN x' q k=tdN x q k
 cl:∀k,k≠r->clN x' r k=lnN x k
theorem RI.bF(h:RI c M m b x)(hc:c.Ok)(hm:m<=100)(hb:b<=700)(hr:r<c.n):RI c M m b (Z5 c r x 2)/\Told2 c x (Z5 c r x 2) r:=by
 have hn:=h.aF;obtain⟨f1,f2,f3⟩:=h.bM hr;obtain⟨B,rfl,hw⟩:=h.w;have hy:=h.l.node r hr;have vR:=hw.nodes r hr;have dJ:=vR.up hy.up;obtain⟨B',_,zn,mU⟩:=hw.tell hc hm hb hr 2;have iQ:(Za8 c r (x.nodes r).s 2).1=some (ZbO 3 r (x.nodes r).s.clk):=by
  unfold Za8 ZcV;rw[ZPn ZO,ZPp rfl,ZPp hy.up]
 obtain⟨f,hf⟩:∃f,f=Zbc r (Zad x.hub.s.sh r (x.nodes r).s.clk x.hub.s.sh.length):=⟨_,rfl⟩;have e:Z5 c r x 2=⟨Zbn x.nodes r (Zaa c r (x.nodes r) f).1,x.hub,x.link⟩:=by
  unfold Z5;rw[iQ];simp only;rw[ZlQ h.l.hub rfl,hf];rfl
 have RM:f.events=Zad x.hub.s.sh r (x.nodes r).s.clk x.hub.s.sh.length:=by rw[hf];rfl
 obtain⟨t1,t2,t3,t4⟩:=ZjW (c:=c) (r:=r) hy dJ.down (f:=f) (by rw[hf];rfl) (by rw[RM];exact f1);rw[RM]at t3;rw[e]at mU ⊢;have hC:∀q k,clN ⟨Zbn x.nodes r (Zaa c r (x.nodes r) f).1,x.hub,x.link⟩ q k=if q=r then(if k=r then clN x r r else lnN x k) else clN x q k:=λq k=>by
  rw[Zok];split
  ·rw[t3];split
   ·rename_i hk;rw[hk];exact f2
   ·rename_i hk;exact f3 k hk
  ·rfl
 have hS:∀q,sN ⟨Zbn x.nodes r (Zaa c r (x.nodes r) f).1,x.hub,x.link⟩ q=sN x q:=λq=>by
  rw[Zrm];split
  ·rename_i hq;rw[t4,hq];rfl
  ·rfl
 refine⟨⟨⟨B',zn,mU⟩,h.p.setNode λk=>Zjt c r _ f k,h.l.setNode t1 h.l.hub h.l.cut⟩,⟨⟨λq _=>by rw[hS];exact ZL _,λq hq k=>?_,λk=>ZL _,λk=>ZL _,λq _ k=>ZL _,λq hq=>?_⟩,λ_=>rfl,λ_=>rfl,hS,λ_ _=>rfl,λk hk=>by rw[hC,ZPp rfl,ZPn hk]⟩⟩
 ·rw[hC];split
  ·rename_i yt;subst yt;split
   ·rename_i hk;rw[hk];exact ZL _
   ·rename_i hk;exact hn.cl q hq k hk
  ·exact ZL _
 ·simp only;by_cases yt:q=r
  ·subst yt;rw[ZbA];exact t2
  ·rw[Za7 yt];exact⟨[],ZM⟩
structure Told3(c:Cfg)(x x':WS)(r:Nat):Prop where
 adv:Adv c x x'
 ln:∀k,lnN x' k=lnN x k
 s:∀q,sN x' q=sN x q
 cl:∀q k,clN x' q k=clN x q k
 td:∀k,clN x r k<=tdN x' r k
 bs:∀k v,k<c.n->(∀q,q<c.n->v<=tdN x' q k)->v<=lnN x k->v<=bsN x' k
theorem RI.bV(h:RI c M m b x)(hc:c.Ok)(hm:m<=100)(hb:b<=700)(hr:r<c.n):RI c M m b (Z5 c r x 3)/\Told3 c x (Z5 c r x 3) r:=by
 have hn:=h.aF;obtain⟨B,rfl,hw⟩:=h.w;have hy:=h.l.node r hr;have vR:=hw.nodes r hr;have dJ:=vR.up hy.up;obtain⟨B',_,zn,mU⟩:=hw.tell hc hm hb hr 3;have iQ:(Za8 c r (x.nodes r).s 3).1=some (ZbO 5 r (x.nodes r).s.clk):=by
  unfold Za8 ZcV;rw[ZPn ZO,ZPn ZO,ZPp hy.up]
 obtain⟨g,hg⟩:∃g,g=ZbO 5 r (x.nodes r).s.clk:=⟨_,rfl⟩;rw[←hg]at iQ;obtain⟨H,hH,hi,_⟩:=hw.hub;have hd:=(hi.up h.l.hub).1;obtain⟨p1,p2,p3,p4,p5⟩:=ZnK (c:=c) h.l.hub hd h.l.cut (show g.kind=5 by rw[hg];rfl);have e:Z5 c r x 3=⟨x.nodes,(Zh c x.hub g).1,x.link⟩:=by
  unfold Z5;rw[iQ];simp only;unfold Zbz;rw[p5]
 have jo:g.r=r:=by rw[hg];rfl
 have hp:PastInv c ⟨x.nodes,(Zh c x.hub g).1,x.link⟩:=by
  refine h.p.aZ hw hc ((vR.tell hr hc (ZT hw.sum hm) iQ).1) λ_ k=>?_
  have:=(vR.bd iQ).2 k;rw[jo];exact this
 rw[e]at mU ⊢;obtain⟨x',oY⟩:∃x':WS,x'=⟨x.nodes,(Zh c x.hub g).1,x.link⟩:=⟨_,rfl⟩;have im:x'.hub.s.sh=Zav x.hub.s.sh (Z8 x.hub.s.told g) x.hub.s.sh.length:=by rw[oY];exact p3
 have vH:x'.hub.s.told=Z8 x.hub.s.told g:=by rw[oY];exact p4
 have hL:∀k,lnN x' k=lnN x k:=λk=>by unfold lnN hubLen;rw[im,ZfS]
 have hT:∀q k,tdN x' q k=if q=r then max (tdN x r k) (clN x r k) else tdN x q k:=λq k=>by
  unfold tdN;rw[vH];unfold Z8;rw[jo,ZmC (by rw[hn.tdl];exact hr)];split
  ·rw[Zdq,hg];rfl
  ·rfl
 have zp:∀k z,x.hub.s.sh[k]? = some z->bsN x' k=Za5 z.base z.kept.length (ZaV x'.hub.s.told k):=λk z hz=>by
  have hk:=(ZZ.1 hz).1;have:=Zed (told:=Z8 x.hub.s.told g) hk hz;rw[←im]at this;rw[Zgl this,vH];rfl
 rw[←oY]at mU hp ⊢;refine⟨⟨⟨B',zn,mU⟩,hp,?_⟩,⟨⟨λq _=>?_,λq _ k=>?_,λk=>by rw[hL];exact ZL _,λk=>?_,λq _ k=>?_,λq _=>⟨[],by rw[oY];simp⟩⟩,hL,λq=>by rw[oY];rfl,λq k=>by rw[oY];rfl,λk=>?_,λk v hk hv hl=>?_⟩⟩
 ·rw[oY];exact⟨p1,p2,h.l.node⟩
 ·rw[oY];exact ZL _
 ·rw[oY];exact ZL _
 ·cases hz:x.hub.s.sh[k]? with
  |none=>rw[Zjd hz];exact Nat.zero_le _
  |some z=>rw[zp k z hz,Zgl hz];exact Nat.le_max_left _ _
 ·rw[hT];split
  ·rename_i hq;rw[hq];exact Nat.le_max_left _ _
  ·exact ZL _
 ·rw[hT,ZPp rfl];exact Nat.le_max_right _ _
 ·obtain⟨z,hz⟩:∃z,x.hub.s.sh[k]? = some z:=⟨_,ZX (by rw[hn.shl];exact hk)⟩;rw[zp k _ hz];have oV:lnN x k=shLen z:=Zdl hz;have hlen:x'.hub.s.told.length=c.n:=by rw[vH];unfold Z8;rw[List.length_set];exact hn.tdl
  have h1:v<=ZaV x'.hub.s.told k:=Zpf (by rw[hlen];omega) λq hq=>by rw[hlen]at hq;exact hv q hq
  rw[oV]at hl;unfold shLen at hl;unfold Za5;omega
end
structure TurnsTo(c:Cfg)(M:Nat->Nat)(x0 x:WS)(j:Nat):Prop where
 adv:Adv c x0 x
 td:∀r,r<j->∀k,k<c.n->lnN x0 k<=tdN x r k
 bs:0<j->j=c.n->∀k,k<c.n->lnN x0 k<=bsN x k
 rest:∀q,j<=q->q<c.n->lnN x q=lnN x0 q/\sN x q=sN x0 q
 go:∀q,q<j->sN x0 q<M q->bsN x0 q=lnN x0 q->sN x0 q<sN x q
 got:∀q,q<j->lnN x q≠lnN x0 q->sN x0 q<sN x q
structure Done(c:Cfg)(M:Nat->Nat)(x:WS):Prop where
 s:∀q,q<c.n->sN x q=M q
 ln:∀q,q<c.n->lnN x q=M q
 bs:∀q,q<c.n->bsN x q=M q
 cl:∀r,r<c.n->∀k,k<c.n->clN x r k=M k
 td:∀r,r<c.n->∀k,k<c.n->tdN x r k=M k
section
variable {c:Cfg}{M:Nat->Nat}{m b r j:Nat}{x x' x0:WS}{B:Bd}
theorem RI.aN(h0:RI c M m b x0)(h:RI c M m b x)(ht:TurnsTo c M x0 x j)(hc:c.Ok)(hm:m<=100)(hb:b<=700)(hj:j<c.n):RI c M m b (ZdY c x j)/\TurnsTo c M x0 (ZdY c x j) (j+1):=by
 have n0:=h0.aF;have nx:=h.aF;obtain⟨r1,t1⟩:=h.push hc hm hb hj;obtain⟨r2,t2⟩:=r1.bF hc hm hb hj;obtain⟨r3,t3⟩:=r2.bV hc hm hb hj;have n2:=r2.aF;unfold ZdY;obtain⟨x1,j8⟩:∃y,y=Z5 c j x 1:=⟨_,rfl⟩;rw[←j8]at r1 t1 r2 t2 r3 t3 n2 ⊢;obtain⟨x2,kw⟩:∃y,y=Z5 c j x1 2:=⟨_,rfl⟩;rw[←kw]at r2 t2 r3 t3 n2 ⊢;obtain⟨x3,sZ⟩:∃y,y=Z5 c j x2 3:=⟨_,rfl⟩;rw[←sZ]at r3 t3 ⊢;have ha:=((ht.adv.trans t1.adv).trans t2.adv).trans t3.adv;have ku:∀q,sN x3 q=sN x1 q:=λq=>by rw[t3.s,t2.s]
 have qW:∀q,lnN x3 q=lnN x1 q:=λq=>by rw[t3.ln,t2.ln]
 have vH:∀r,r<j+1->∀k,k<c.n->lnN x0 k<=tdN x3 r k:=λr hr k hk=>by
  by_cases V8:r=j
  ·subst V8;have h1:=t3.td k;by_cases ig:k=r
   ·subst ig;have h2:=n2.own k hk;have h3:=n0.ln k;omega
   ·have h2:=t2.cl k ig;have h3:=t1.adv.ln k;have h4:=ht.adv.ln k;omega
  ·have h1:=ht.td r ZO k hk;have h2:=(((t1.adv.trans t2.adv).trans t3.adv).td r ZO k);omega
 obtain⟨e1,e2⟩:=ht.rest j (ZL _) hj;refine⟨r3,ha,vH,λ_ zL k hk=>?_,λq hq du=>?_,λq hq h1 h2=>?_,λq hq h1=>?_⟩
 ·refine t3.bs k _ hk (λq hq=>vH q ZO k hk) ?_;have:=((ht.adv.trans t1.adv).trans t2.adv).ln k;exact this
 ·obtain⟨f1,f2⟩:=ht.rest q ZO du;rw[qW,ku,t1.ln q ZO,t1.s q ZO];exact⟨f1,f2⟩
 ·by_cases Kq:q=j
  ·subst Kq;have h3:=ht.adv.bs q;have h4:=nx.bs q;have:=t1.go ZO ZO;rw[ku];omega
  ·have h3:=ht.go q ZO h1 h2;have h4:=((t1.adv.trans t2.adv).trans t3.adv).s q ZO;omega
 ·by_cases Kq:q=j
  ·subst Kq;rw[qW]at h1;have h2:=t1.got ZO;have h3:=t1.adv.ln q;have h4:=nx.s q hj;rw[ku];omega
  ·have h2:lnN x3 q=lnN x q:=by rw[qW,t1.ln q Kq]
   have h3:=ht.got q ZO ZO;have h4:=((t1.adv.trans t2.adv).trans t3.adv).s q ZO;omega
theorem RI.turns(h0:RI c M m b x0)(hc:c.Ok)(hm:m<=100)(hb:b<=700):∀j,j<=c.n->RI c M m b ((List.range j).foldl (ZdY c) x0)/\TurnsTo c M x0 ((List.range j).foldl (ZdY c) x0) j
 | 0,_=>⟨h0,Adv.refl c x0,λr hr=>ZO,λh=>ZO,λq _ _=>⟨rfl,rfl⟩,λq hq=>ZO,λq hq=>ZO⟩
 |j+1,hj=>by
  obtain⟨h1,h2⟩:=RI.turns h0 hc hm hb j ZO;rw[List.range_succ,List.foldl_append];exact h0.aN h1 h2 hc hm hb ZO
theorem RI.round(h:RI c M m b x)(hc:c.Ok)(hm:m<=100)(hb:b<=700):RI c M m b (ZcJ c x)/\TurnsTo c M x (ZcJ c x) c.n:=h.turns hc hm hb c.n (ZL _)
theorem TurnsTo.done(ht:TurnsTo c M x x' c.n)(h:RI c M m b x)(h':RI c M m b x')(hc:c.Ok)(hs:∀q,q<c.n->sN x q=M q):Done c M x':=by
 have n0:=h.aF;have n1:=h'.aF;have h1:=hc.n1;have hl:∀q,q<c.n->lnN x q=M q:=λq hq=>by have:=n0.s q hq;have:=n0.ln q;have:=hs q hq;omega
 refine⟨λq hq=>?_,λq hq=>?_,λq hq=>?_,λr hr k hk=>?_,λr hr k hk=>?_⟩
 ·have:=ht.adv.s q hq;have:=n1.s q hq;have:=n1.ln q;have:=hs q hq;omega
 ·have:=ht.adv.ln q;have:=n1.ln q;have:=hl q hq;omega
 ·have:=ht.bs ZO rfl q hq;have:=n1.bs q;have:=n1.ln q;have:=hl q hq;omega
 ·have h2:=ht.td r hr k hk;have h3:=n1.td r hr k;have h4:=hl k hk;by_cases ig:k=r
  ·subst ig;exact n1.own k hr
  ·have:=n1.cl r hr k ig;have:=n1.ln k;omega
 ·have h2:=ht.td r hr k hk;have h3:=n1.td r hr k;have h4:=hl k hk;by_cases ig:k=r
  ·subst ig;have:=n1.own k hr;omega
  ·have:=n1.cl r hr k ig;have:=n1.ln k;omega
theorem Zfe{sh:List Sh}(h:sh.length<=5)(i:Nat):(Zdw sh).get i=(sh.map (·.base)).getD i 0:=by
 unfold Zdw;rw[ZgQ h (ZL _)];split
 ·rfl
 ·rw[List.getD_eq_getElem?_getD,List.getElem?_eq_none ZP];rfl
theorem ZmR{α : Type}{f g:Nat -> α}{n:Nat}(h:(List.range n).map f=(List.range n).map g){r:Nat}(hr:r<n):f r=g r:=by
 have:=congrArg (λl=>l[r]?) h;simpa [hr] using this
theorem TurnsTo.still(ht:TurnsTo c M x x' c.n)(h:RI c M m b x)(h':RI c M m b x')(hc:c.Ok)(hs:ZaC c x'=ZaC c x):Done c M x':=by
 have n0:=h.aF;have n1:=h'.aF;have h5:=hc.n5;have h1:=hc.n1;unfold ZaC at hs;rw[ZPp h.l.hub,ZPp h'.l.hub,ZPp h.l.hub,ZPp h'.l.hub,ZPp h.l.hub,ZPp h'.l.hub]at hs;injection hs with _ hb hl _ hn;have jm:∀k,bsN x' k=bsN x k:=λk=>by
  have:=congrArg (λz=>z.get k) hb;rw[Zfe (by rw[n1.shl];exact h5),Zfe (by rw[n0.shl];exact h5)]at this;exact this
 have oV:∀k,lnN x' k=lnN x k:=λk=>by
  have:=congrArg (λz=>z.get k) hl;rw[Ze4 (by rw[n1.shl];exact h5),Ze4 (by rw[n0.shl];exact h5)]at this;exact this
 have l8:∀r,r<c.n->sN x' r=sN x r:=λr hr=>by
  have:=ZmR hn (show r<5 by omega);simp only[ZPp hr]at this;unfold ZfX at this;rw[ZPp (h.l.node r hr).up,ZPp (h'.l.node r hr).up]at this;injection this with _ this;injection this with this _
 refine ht.done h h' hc λq hq=>?_
 have h2:=ht.bs ZO rfl q hq;have h3:=n1.bs q;have h4:=jm q;have h6:=oV q;have h7:=n0.s q hq;have h8:=n0.ln q;have h9:=l8 q hq;by_cases cI:sN x q<M q
 ·have:=ht.go q hq cI ZO;omega
 ·omega
theorem Zkt(hc:c.Ok)(hm:m<=100)(hb:b<=700):∀(k:Nat) {x:WS},RI c M m b x->(∀q,q<c.n->2*(M q-sN x q)+(if bsN x q<lnN x q then 1 else 0)<=k+1)->RI c M m b (goW c (k+1) x)/\Done c M (goW c (k+1) x)
 | 0,x,h,hq=>by
  obtain⟨h1,h2⟩:=h.round hc hm hb;have hd:=h2.done h h1 hc λq du=>by
   have a1:=hq q du;have a2:=h.aF.s q du;have a3:=h.aF.ln q;split at a1 <;> omega
  unfold goW;split
  ·exact⟨h1,hd⟩
  ·exact⟨h1,hd⟩
 |k+1,x,h,hq=>by
  obtain⟨h1,h2⟩:=h.round hc hm hb;unfold goW;split
  ·rename_i hs;exact⟨h1,h2.still h h1 hc hs⟩
  ·refine Zkt hc hm hb k h1 λq du=>?_
   have a1:=hq q du;have a2:=h2.go q du;have a3:=h2.got q du;have a4:=h2.bs ZO rfl q du;have a5:=h1.aF.bs q;have a6:=h1.aF.s q du;have a7:=h1.aF.ln q;have a8:=h2.adv.s q du;have a9:=h.aF.bs q;have b1:=h2.adv.ln q;by_cases cI:sN x q<M q
   ·by_cases oU:bsN x q<lnN x q
    ·rw[ZPp oU]at a1;by_cases hl:lnN (ZcJ c x) q=lnN x q
     ·rw[ZPn ZO];omega
     ·have:=a3 hl;split <;> omega
    ·rw[ZPn oU]at a1;have:=a2 cI ZO;split <;> omega
   ·split <;> omega
theorem ZqC(hc:c.Ok)(hm:m<=100)(hb:b<=700):∀(k:Nat) {x:WS},RI c M m b x->RI c M m b (goW c k x)/\Adv c x (goW c k x)
 | 0,x,h=>⟨h,Adv.refl c x⟩
 |k+1,x,h=>by
  obtain⟨h1,h2⟩:=h.round hc hm hb;unfold goW;split
  ·exact⟨h1,h2.adv⟩
  ·obtain⟨h3,h4⟩:=ZqC hc hm hb k h1;exact⟨h3,h2.adv.trans h4⟩
theorem Zio{a b:Clk}(h:∀i,i<5->a.get i=b.get i):a=b:=by
 have h0:=h 0 ZO;have h1:=h 1 ZO;have h2:=h 2 ZO;have h3:=h 3 ZO;have h4:=h 4 ZO;obtain⟨a0,a1,a2,a3,a4⟩:=a;obtain⟨b0,b1,b2,b3,b4⟩:=b;simp only[Clk.get]at h0 h1 h2 h3 h4;subst h0 h1 h2 h3 h4;rfl
theorem Zgx(h:RI c M m b x)(hk:c.n<=k):lnN x k=0:=by
 unfold lnN hubLen lensOf;rw[List.getD_eq_getElem?_getD,List.getElem?_eq_none (by rw[List.length_map,h.aF.shl];exact hk)];rfl
theorem ZeC(h:RI c M m b x)(hr:r<c.n)(hk:c.n<=k):clN x r k=0:=by
 have:=h.aF.cl r hr k ZO;rw[Zgx h hk]at this;omega
theorem Zir(h:RI c M m b x)(hr:r<c.n):(x.nodes r).s.log.length=tot (clN x r):=by
 obtain⟨B,_,hw⟩:=h.w;rw[Zkv ((hw.nodes r hr).log (h.l.node r hr).up).r5];have:(λi=>cnt i (x.nodes r).s.log)=clN x r:=funext λi=>((hw.nodes r hr).clk (h.l.node r hr).up i).symm
 rw[this]
theorem Done.same(hd:Done c M x)(h:RI c M m b x)(h':RI c M m b x')(ha:Adv c x x')(hc:c.Ok):Done c M x'/\(∀r,r<c.n->siteN (x'.nodes r).s=siteN (x.nodes r).s)/\ZbL x'.hub.s.up x'.hub.s.sh x'.hub.s.told=ZbL x.hub.s.up x.hub.s.sh x.hub.s.told:=by
 have n0:=h.aF;have n1:=h'.aF;have h5:=hc.n5;have oQ:Done c M x':=by
  refine⟨λq hq=>?_,λq hq=>?_,λq hq=>?_,λr hr k hk=>?_,λr hr k hk=>?_⟩
  ·have:=ha.s q hq;have:=hd.s q hq;have:=n1.s q hq;have:=n1.ln q;omega
  ·have:=ha.ln q;have:=hd.ln q hq;have:=n1.ln q;omega
  ·have:=ha.bs q;have:=hd.bs q hq;have:=n1.bs q;have:=n1.ln q;omega
  ·have h2:=ha.cl r hr k;have h3:=hd.cl r hr k hk;by_cases ig:k=r
   ·subst ig;exact n1.own k hr
   ·have:=n1.cl r hr k ig;have:=n1.ln k;omega
  ·have h2:=ha.td r hr k;have h3:=hd.td r hr k hk;have h4:=n1.td r hr k;by_cases ig:k=r
   ·subst ig;have:=n1.own k hr;omega
   ·have:=n1.cl r hr k ig;have:=n1.ln k;omega
 have fg:∀r,r<c.n->∀k,clN x' r k=clN x r k:=λr hr k=>by
  rcases Nat.lt_or_ge k c.n with hk|hk
  ·rw[oQ.cl r hr k hk,hd.cl r hr k hk]
  ·rw[ZeC h' hr hk,ZeC h hr hk]
 refine⟨oQ,λr hr=>?_,?_⟩
 ·rw[ZdJ (h.l.node r hr).up,ZdJ (h'.l.node r hr).up,(h.l.node r hr).held,(h'.l.node r hr).held];have e1:(x'.nodes r).s.clk=(x.nodes r).s.clk:=Zio λi _=>fg r hr i
  have e2:(x'.nodes r).s.sent=(x.nodes r).s.sent:=by have:=oQ.s r hr;rw[←hd.s r hr]at this;exact this
  have e3:(x'.nodes r).s.log=(x.nodes r).s.log:=by
   obtain⟨l,hl⟩:=ha.log r hr;have h1:=Zir h hr;have h2:=Zir h' hr;rw[show clN x' r=clN x r from funext (fg r hr),←h1,hl,ZI]at h2;rw[hl,List.length_eq_zero_iff.1 (show l.length=0 by omega),List.append_nil]
  rw[e1,e2,e3]
 ·unfold ZbL;rw[ZPp h.l.hub,ZPp h'.l.hub];have e1:Zdw x'.hub.s.sh=Zdw x.hub.s.sh:=Zio λi _=>by
   rw[Zfe (by rw[n1.shl];exact h5),Zfe (by rw[n0.shl];exact h5)];show bsN x' i=bsN x i
   rcases Nat.lt_or_ge i c.n with hk|hk
   ·rw[oQ.bs i hk,hd.bs i hk]
   ·have:=n0.bs i;have:=n1.bs i;rw[Zgx h hk]at *;rw[Zgx h' hk]at *;omega
  have e2:lenOf x'.hub.s.sh=lenOf x.hub.s.sh:=Zio λi _=>by
   rw[Ze4 (by rw[n1.shl];exact h5),Ze4 (by rw[n0.shl];exact h5)];show lnN x' i=lnN x i
   rcases Nat.lt_or_ge i c.n with hk|hk
   ·rw[oQ.ln i hk,hd.ln i hk]
   ·rw[Zgx h hk,Zgx h' hk]
  have e3:x'.hub.s.told=x.hub.s.told:=by
   apply List.ext_getElem
   ·rw[n1.tdl,n0.tdl]
   ·intro i h1 h2;have hi:i<c.n:=by rw[n1.tdl]at h1;exact h1
    have k1:x'.hub.s.told[i]=x'.hub.s.told.getD i ZCz:=by rw[List.getD_eq_getElem?_getD,ZX h1];rfl
    have k2:x.hub.s.told[i]=x.hub.s.told.getD i ZCz:=by rw[List.getD_eq_getElem?_getD,ZX h2];rfl
    rw[k1,k2];refine Zio λk _=>?_
    show tdN x' i k=tdN x i k
    rcases Nat.lt_or_ge k c.n with hk|hk
    ·rw[oQ.td i hi k hk,hd.td i hi k hk]
    ·have a1:=n0.td i hi k;have a2:=n1.td i hi k;rw[ZeC h hi hk]at a1;rw[ZeC h' hi hk]at a2;omega
  rw[e1,e2,e3]
theorem Zob(hw:WInv c B m b x)(hp:PastInv c x)(hc:c.Ok)(hm:m<=100)(hb:b<=700):RI c B.made m b (Za4 c x):=by
 obtain⟨B',_,zn,mU⟩:=hw.bf hc hm hb;refine⟨⟨B',zn,mU⟩,?_,⟨ZlB c _,?_,λr hr=>?_⟩⟩
 ·have i7:∀r,((Za4 c x).nodes r).rs=(x.nodes r).rs:=λr=>by
   unfold Za4;simp only;split
   ·unfold ZbI;split <;> rfl
   ·rfl
  have eA:(Za4 c x).hub.rs=x.hub.rs:=by
   unfold Za4 ZbX;simp only;split <;> rfl
  have hh:hasN (Za4 c x)=hasN x:=by funext r k;unfold hasN;rw[i7]
  exact⟨by rw[eA,hh];exact hp.told,by rw[eA];exact hp.hist,by rw[hh];exact hp.link⟩
 ·unfold Za4 ZbX ZcR;simp only[Bool.false_eq_true,if_false];rfl
 ·have e:(Za4 c x).nodes r=ZeI r (ZcF (x.nodes r)):=by
   unfold Za4 ZbI ZcF;simp only[ZPp hr,Bool.false_eq_true,if_false]
  rw[e];exact⟨rfl,rfl,rfl⟩
theorem Zjc(h:RI c M m b x):Adv c x (Za4 c x)/\(∀r,r<c.n->sN (Za4 c x) r=sN x r)/\(∀k,lnN (Za4 c x) k=lnN x k)/\(∀k,bsN (Za4 c x) k=bsN x k):=by
 obtain⟨B,_,hw⟩:=h.w;obtain⟨H,hH,hi,dJ⟩:=hw.hub;obtain⟨g1,g2,g3⟩:=hi.up h.l.hub;have e:∀r,r<c.n->(Za4 c x).nodes r=ZeI r (ZcF (x.nodes r)):=λr hr=>by
  unfold Za4 ZbI ZcF;simp only[ZPp hr,Bool.false_eq_true,if_false]
 have sR:∀r,r<c.n->nodeRecs (x.nodes r).rs=((x.nodes r).s.log,(x.nodes r).s.sent):=λr hr=>((hw.nodes r hr).up (h.l.node r hr).up).recs
 have hh:(Za4 c x).hub=Zjs c (ZcR x.hub):=by
  unfold Za4 ZbX ZcR;simp only[Bool.false_eq_true,if_false]
 have jG:(Za4 c x).hub.s.sh=x.hub.s.sh:=by rw[hh];show(repl c x.hub.rs).1=_;rw[g3]
 have ju:(Za4 c x).hub.s.told=x.hub.s.told:=by rw[hh];show(repl c x.hub.rs).2=_;rw[g3]
 have a1:∀r,r<c.n->sN (Za4 c x) r=sN x r:=λr hr=>by
  unfold sN;rw[e r hr];show(nodeRecs (x.nodes r).rs).2=_
  rw[sR r hr]
 have a2:∀k,lnN (Za4 c x) k=lnN x k:=λk=>by unfold lnN;rw[jG]
 have a3:∀k,bsN (Za4 c x) k=bsN x k:=λk=>by unfold bsN;rw[jG]
 refine⟨⟨λr hr=>Nat.le_of_eq (a1 r hr).symm,λr hr k=>?_,λk=>Nat.le_of_eq (a2 k).symm,λk=>Nat.le_of_eq (a3 k).symm,λr hr k=>?_,λr hr=>⟨[],?_⟩⟩,a1,a2,a3⟩
 ·unfold clN;rw[e r hr];show _<=(clkOf (nodeRecs (x.nodes r).rs).1).get k
  rw[sR r hr,((hw.nodes r hr).up (h.l.node r hr).up).clk];exact ZL _
 ·unfold tdN;rw[ju];exact ZL _
 ·rw[e r hr,List.append_nil];show(nodeRecs (x.nodes r).rs).1=_
  rw[sR r hr]
theorem RI.bf(h:RI c M m b x)(hc:c.Ok)(hm:m<=100)(hb:b<=700):RI c M m b (Za4 c x):=by
 obtain⟨B,rfl,hw⟩:=h.w;exact Zob hw h.p hc hm hb
end
section
variable {c:Cfg}{B:Bd}{m b r:Nat}{x:WS}{s:St}{many:Clk}{a:PN}
theorem Zqw(h:NodeInv c r B b a)(hu:a.s.up=true)(eT:a.s.d.cut=false)(kind:Nat)(key:ByteArray)(label:Nat)(value:ByteArray):
  ((Zbb c r a kind key label value).1.s.up=true/\(Zbb c r a kind key label value).1.s.d.cut=false) /\
   ownN r (Zbb c r a kind key label value).1=ownN r a+if (Zbb c r a kind key label value).2=0 then 1 else 0:=by
 have hd:=(h.up hu).down;unfold Zbb ZdD;by_cases hk:Zb2 c.l c.p (listN a.s.book) kind key label value=0
 ·by_cases hw:a.s.wait.length<c.q
  ·simp only[hu,hk,hw,and_self,if_true];obtain⟨e,mE⟩:∃e,e=madeEv r a.s kind key label value:=⟨_,rfl⟩;rw[←mE];have e1:e.r=r:=by rw[mE];rfl
   obtain⟨h0,h1,h2⟩:=Zgk hu hd eT (Z7 r e);have h3:ZaL a.s.d a.rs (Z7 r e)=a.rs++[Z7 r e]:=by unfold ZaL;rw[ZPn (by simp[hd]),ZPn (by simp[eT])]
   have h4:nodeRecs (a.rs++[Z7 r e])=((nodeRecs a.rs).1++[e],(nodeRecs a.rs).2):=by rw[Zb4];simp[Zap,Z7]
   simp only[h0,if_true];refine⟨⟨h1,h2⟩,?_⟩;unfold ownN;simp only;rw[h3,h4];simp only;rw[ZgO,ZPp e1]
  ·simp only[hu,hk,hw,and_false,if_true,if_false];exact⟨⟨trivial,eT⟩,rfl⟩
 ·simp only[hu,hk,false_and,and_false,if_true,if_false];exact⟨⟨trivial,eT⟩,rfl⟩
end
def ZjJ(l:List SiteN)(r:Nat)(S:SiteN)(k:Nat):Bool:=decide (k<=S.sent)&&l.all λT=>decide (k<=T.clk.get r)
def ZeT(l:List SiteN)(r:Nat)(S:SiteN):Nat->Nat
 | 0=>0
 |k+1=>ZeT l r S k+if ZjJ l r S (k+1)=true then 0 else 1
def Zd4(l:List SiteN)(r:Nat):Nat:=match l[r]? with|some S=>ZeT l r S (S.clk.get r)|none=>0
def Zcu(l:List SiteN):Nat->Nat
 | 0=>0
 |r+1=>Zcu l r+Zd4 l r
def Zbe(c:Cfg)(x:WS):List SiteN:=(List.range c.n).map λr=>siteN (x.nodes r).s
section
variable {c:Cfg}{M:Nat->Nat}{B:Bd}{m b r:Nat}{x:WS}{s:St}{l:List SiteN}{S:SiteN}{a:PN}
theorem Zg4:∀k,ZeT l r S k<=k
 | 0=>ZL _
 |k+1=>by
  have:=Zg4 k;unfold ZeT;split <;> omega
theorem ZmL:∀k,k<=ZeT l r S k+S.sent
 | 0=>Nat.zero_le _
 |k+1=>by
  have:=ZmL k;unfold ZeT;split
  ·rename_i h;unfold ZjJ at h;simp only[Bool.and_eq_true,decide_eq_true_eq]at h;omega
  ·omega
def Zmb(M:Nat->Nat):Nat->Nat
 | 0=>0
 |j+1=>Zmb M j+M j
theorem Zg5(h:∀r,Zd4 l r<=M r):∀j,Zcu l j<=Zmb M j
 | 0=>ZL _
 |j+1=>Nat.add_le_add (Zg5 h j) (h j)
theorem ZiV{j:Nat}:∀k,j<=k->Zcu l j<=Zcu l k
 | 0,h=>by
  obtain rfl:j=0:=ZO;exact ZL _
 |k+1,h=>by
  by_cases e:j=k+1
  ·subst e;exact ZL _
  ·exact ZT (ZiV k ZO) (Nat.le_add_right _ _)
theorem ZqO(h:j<k):Zd4 l j<=Zcu l k:=ZT (Nat.le_add_left _ _) (ZiV (j:=j+1) k h)
theorem ZlD(M:Nat->Nat)(h:j<=5):Zmb M j<=tot M:=by
 have h5:j=0∨j=1∨j=2∨j=3∨j=4∨j=5:=ZO;rcases h5 with rfl|rfl|rfl|rfl|rfl|rfl <;> simp only[Zmb,tot] <;> omega
theorem Zhg{r:Nat}(h:r<c.n):(Zbe c x)[r]? = some (siteN (x.nodes r).s):=by simp[Zbe,h]
theorem ZpT{r:Nat}(h:c.n<=r):(Zbe c x)[r]? = none:=by simp[Zbe,h]
theorem RI.bz(h:RI c M m b x)(hr:r<c.n):Zd4 (Zbe c x) r<=M r/\M r<=Zd4 (Zbe c x) r+sN x r:=by
 have hu:=(h.l.node r hr).up;have ho:=h.aF.own r hr;unfold Zd4;rw[Zhg hr,ZdJ hu];simp only;have e:(x.nodes r).s.clk.get r=M r:=ho;rw[e];exact⟨Zg4 _,ZmL (S:=⟨true,(x.nodes r).s.clk,(x.nodes r).s.sent,(x.nodes r).s.held,(x.nodes r).s.log⟩) _⟩
theorem RI.sum(h:RI c M m b x)(hm:m<=100):tot M<=100:=by
 obtain⟨B,rfl,hw⟩:=h.w;exact ZT hw.sum hm
theorem RI.bO(h:RI c M m b x)(hc:c.Ok)(hm:m<=100):Zcu (Zbe c x) c.n<=100:=by
 have h1:=Zg5 (l:=Zbe c x) (M:=M) (λr=>by
  by_cases hr:r<c.n
  ·exact(h.bz hr).1
  ·unfold Zd4;rw[ZpT ZO]
   exact Nat.zero_le _) c.n
 exact ZT h1 (ZT (ZlD M hc.n5) (h.sum hm))
theorem RI.small(h:RI c M m b x)(hc:c.Ok)(hm:m<=100):∀S∈Zbe c x,(∀i,S.clk.get i<=100)/\S.sent<=100:=by
 intro S hS;unfold Zbe at hS;obtain⟨r,hr,rfl⟩:=List.mem_map.1 hS;have hr:r<c.n:=by simpa using hr
 have hs:=h.sum hm;have hn:=h.aF;have h5:=hc.n5;have hM:∀i,i<5->M i<=100:=λi hi=>ZT (Zde hi) hs
 rw[ZdJ (h.l.node r hr).up];refine⟨λi=>?_,?_⟩
 ·show clN x r i<=100
  rcases Nat.lt_or_ge i c.n with hi|hi
  ·by_cases e:i=r
   ·subst e;rw[hn.own i hr];exact hM i ZO
   ·have h1:=hn.cl r hr i e;have h2:=hn.ln i;have h3:=hM i ZO;omega
  ·rw[ZeC h hr hi];omega
 ·show sN x r<=100
  have h1:=hn.s r hr;have h2:=hn.ln r;have h3:=hM r ZO;omega
theorem RI.cg(h:RI c M m b x)(hc:c.Ok)(hm:m<=100)(hb:b<=700):RI c M m b (ZaW c (3*Zcu (Zbe c x) c.n+2) x)/\Done c M (ZaW c (3*Zcu (Zbe c x) c.n+2) x):=by
 have h1:=h.bf hc hm hb;obtain⟨_,a1,a2,a3⟩:=Zjc h;refine Zkt hc hm hb (3*Zcu (Zbe c x) c.n+1) h1 λq hq=>?_
 have e1:=(h.bz hq).2;have e2:=ZqO (l:=Zbe c x) hq;rw[a1 q hq];split <;> omega
theorem RI.still(h:RI c M m b x)(hd:Done c M x)(hc:c.Ok)(hm:m<=100)(hb:b<=700)(k:Nat):RI c M m b (ZaW c k x)/\Done c M (ZaW c k x)/\Zbe c (ZaW c k x)=Zbe c x /\
  ZbL (ZaW c k x).hub.s.up (ZaW c k x).hub.s.sh (ZaW c k x).hub.s.told=ZbL x.hub.s.up x.hub.s.sh x.hub.s.told:=by
 have h1:=h.bf hc hm hb;obtain⟨a0,_⟩:=Zjc h;obtain⟨g1,g2⟩:=ZqC hc hm hb k h1;obtain⟨d1,d2,d3⟩:=hd.same h g1 (a0.trans g2) hc;refine⟨g1,d1,?_,d3⟩;unfold Zbe;refine List.map_congr_left λr hr=>?_
 exact d2 r (by simpa using hr)
theorem Zqv(c:Cfg)(r:Nat)(a:PN)(kind:Nat)(key:ByteArray)(label:Nat)(value:ByteArray):(Zbb c r a kind key label value).1.s.held=a.s.held/\(Zbb c r a kind key label value).1.s.sent=a.s.sent:=by
 have hk:=λf=>And.intro (ZbD a.s f).2.2.2.2.1 (ZbD a.s f).2.1
 unfold Zbb ZdD Ze0 Zbv;simp only;split
 ·split
  ·split
   ·split
    ·exact hk _
    ·exact hk _
   ·exact⟨rfl,rfl⟩
  ·exact⟨rfl,rfl⟩
 ·exact⟨rfl,rfl⟩
theorem RI.edit(h:RI c M m b x)(hd:Done c M x)(hc:c.Ok)(hm:m<=99)(hb:b<=699)(hs:StOk c s)(hk:s.kind=0)(hr:s.r<c.n):
  ((Z4 c x s).2≠0->Zbe c (Z4 c x s).1=Zbe c x) /\
  ((Z4 c x s).2=0->∀k,k<c.n->(siteN ((ZaW c 2 (Z4 c x s).1).nodes k).s).clk.get s.r=(siteN (x.nodes k).s).clk.get s.r+1 /\
   (siteN ((ZaW c 2 (Z4 c x s).1).nodes k).s).log.length=(siteN (x.nodes k).s).log.length+1):=by
 obtain⟨B,rfl,hw⟩:=h.w;have rK:=hc.n5;have e0:Z4 c x s=(⟨Zbn x.nodes s.r (Zbb c s.r (x.nodes s.r) s.ek s.key s.label s.value).1,x.hub,x.link⟩,(Zbb c s.r (x.nodes s.r) s.ek s.key s.label s.value).2):=by
  unfold Z4;rw[ZPn ZO,ZPn ZO,ZPn ZO,ZPp hk]
 have vg:=h.l.node _ hr;obtain⟨⟨u1,u2⟩,u3⟩:=Zqw (hw.nodes _ hr) vg.up vg.cut s.ek s.key s.label s.value;obtain⟨u4,u5⟩:=Zqv c s.r (x.nodes s.r) s.ek s.key s.label s.value;obtain⟨B',hB,mU,_⟩:=hw.step hc hm hb hs;have yp:=h.p.step hw hc hm (s:=s);rw[ZPp hk]at mU;refine⟨λdR=>?_,λhz k gh=>?_⟩
 ·rcases(hw.nodes _ hr).bL (c:=c) ZO (ZT hw.sum ZO) hs.edit with ⟨e,g1,g2,g3,_⟩|⟨g1,g2⟩|⟨g1,g2⟩
  ·rw[e0]at dR;exact absurd g3 dR
  ·rw[g2]at u1;cases u1
  ·unfold Zbe;refine List.map_congr_left λr _=>?_
   rw[e0];by_cases e:r=s.r
   ·subst e;simp only[ZbA];rw[g2]
   ·simp only[Za7 e]
 ·rw[e0]at hz;simp only at hz;rw[ZPp hz]at u3;obtain⟨y,hy⟩:∃y,y=(Z4 c x s).1:=⟨_,rfl⟩;have CE:y.nodes=Zbn x.nodes s.r (Zbb c s.r (x.nodes s.r) s.ek s.key s.label s.value).1:=by rw[hy,e0]
  have eA:y.hub=x.hub:=by rw[hy,e0]
  rw[←hy]at mU yp ⊢;have hM:∀q,q<c.n->B'.made q=B.made q+if q=s.r then 1 else 0:=λq hq=>by
   rw[mU.own q hq,hw.own q hq,CE];by_cases e:q=s.r
   ·subst e;rw[ZbA,u3,ZPp rfl]
   ·rw[Za7 e,ZPn e];rfl
  have Sm:RI c B'.made (m+1) (b+1) y:=by
   refine⟨⟨B',rfl,mU⟩,yp,by rw[eA];exact h.l.hub,by rw[eA];exact h.l.cut,λq hq=>?_⟩;rw[CE];by_cases e:q=s.r
   ·subst e;rw[ZbA];exact⟨u1,u2,by rw[u4];exact vg.held⟩
   ·rw[Za7 e];exact h.l.node q hq
  obtain⟨_,a1,a2,a3⟩:=Zjc Sm;have oV:∀q,lnN y q=lnN x q:=λq=>by unfold lnN;rw[eA]
  have jm:∀q,bsN y q=bsN x q:=λq=>by unfold bsN;rw[eA]
  have l8:∀q,sN y q=sN x q:=λq=>by
   unfold sN;rw[CE];by_cases e:q=s.r
   ·subst e;rw[ZbA,u5]
   ·rw[Za7 e]
  obtain⟨g1,g2⟩:=Zkt hc ZO ZO 1 (Sm.bf hc ZO ZO) λq hq=>by
   rw[a1 q hq,a2,a3,l8,oV,jm,hd.s q hq,hd.ln q hq,hd.bs q hq,hM q hq,ZPn (Nat.lt_irrefl _)];split <;> omega
  have Nw:RI c B'.made (m+1) (b+1) (ZaW c 2 y):=g1;have Ve:Done c B'.made (ZaW c 2 y):=g2;have dJ:=(Nw.l.node k gh).up;have Pq:=(h.l.node k gh).up;rw[ZdJ dJ,ZdJ Pq];simp only;have c1:∀q,clN (ZaW c 2 y) k q=clN x k q+if q=s.r then 1 else 0:=λq=>by
   rcases Nat.lt_or_ge q c.n with hq|hq
   ·rw[Ve.cl k gh q hq,hd.cl k gh q hq,hM q hq]
   ·rw[ZeC Nw gh hq,ZeC h gh hq,ZPn ZO]
  refine⟨by have:=c1 s.r;rw[ZPp rfl]at this;exact this,?_⟩;rw[Zir Nw gh,Zir h gh];have eO:s.r=0∨s.r=1∨s.r=2∨s.r=3∨s.r=4:=ZO;unfold tot;rw[c1 0,c1 1,c1 2,c1 3,c1 4];rcases eO with e|e|e|e|e <;> rw[e] <;> simp <;> omega
end
theorem ZrM{l:List SiteN}{S:SiteN}(h:l[s]? = some S):((l.take (s+1)).all λT=>decide (k<=T.clk.get r))=(((l.take s).all λT=>decide (k<=T.clk.get r))&&decide (k<=S.clk.get r)):=by
 rw[List.take_add_one,h];simp
theorem SiteRows.look{B:Nat}{v:Value}{l:List SV}(h:SiteRows B w v l){q:Nat}{S:SiteN}(hq:(l.map (·.1))[q]? = some S):
  ∃g cap al kl,v=S_ (some ⟨g,0,none⟩) l.length cap/\g<w.heap.size/\(∀i,i<5->w.cell? ⟨g,q*9+1+i,none⟩=some (I_ J_ (S.clk.get i)))/\w.cell? ⟨g,q*9+6,none⟩=some (I_ J_ S.sent) /\
   w.cell? ⟨g,q*9+8,none⟩=some (S_ al S.log.length kl)/\S.log.length<=9223372036854775807:=by
 rw[List.getElem?_map]at hq;obtain⟨⟨S',vh,vl⟩,h2,h3⟩:=Option.map_eq_some_iff.1 hq;simp only at h3;subst h3;obtain⟨g,cap,hv,hg,_,hc⟩:=h.at_ h2;have hr:=h.log _ (ZY h2);have hm:S'.log.length<=9223372036854775807:=by
  rcases hr.2 with ⟨_,h0⟩|⟨_,c0,_,_,_,_,h1,h2,_⟩
  ·simp only at h0;omega
  ·simp only[maxLen]at h1 h2;omega
 obtain⟨al,kl,hl⟩:=Zl hr;simp only at hl;refine⟨g,cap,al,kl,hv,hg,λi hi=>?_,hc 6 _ rfl,by rw[hc 8 _ rfl,hl],hm⟩;have h5:i=0∨i=1∨i=2∨i=3∨i=4:=ZO;rcases h5 with rfl|rfl|rfl|rfl|rfl
 ·exact hc 1 _ rfl
 ·exact hc 2 _ rfl
 ·exact hc 3 _ rfl
 ·exact hc 4 _ rfl
 ·exact hc 5 _ rfl
theorem ZmM{l:List SiteN}(h:∀S∈l,∀i,S.clk.get i<=1000000)(hj:j<=5):Zcu l j<=5000000:=by
 refine ZT (Zg5 (M:=λ_=>1000000) (λr=>?_) j) (ZT (ZlD _ hj) (ZL _));unfold Zd4;split
 ·rename_i S hS;exact ZT (Zg4 _) (h S (ZY hS) r)
 ·exact Nat.zero_le _
theorem Zsi{B:Nat}{v:Value}{ls:List SV}(h:SiteRows B w v ls)(hl:ls.length<=5)(hb:∀S∈ls.map (·.1),(∀i,S.clk.get i<=1000000)/\S.sent<=1000000):
  Calls prog 21 #[v] w (Zx (I_ J_ (Zcu (ls.map (·.1)) ls.length)) w):=by
 obtain⟨L,hL⟩:∃L,L=ls.map (·.1):=⟨_,rfl⟩;have hlen:ls.length=L.length:=by rw[hL];simp
 rw[←hL]at hb ⊢;obtain⟨av,cv,rfl⟩:=Zl h.row;obtain⟨n,nQ⟩:∃n,n=ls.length:=⟨_,rfl⟩;rw[←nQ]at hl hlen ⊢;obtain⟨gA,HA,HB,HL,HN,gR,HK⟩:=ZH7 (λj (hj:j<=5)=>ZmM (l:=L) (λS hS=>(hb S hS).1) hj) h hb hL nQ hlen (ZKr w);clear h hb hL nQ hlen;go_enter func21,ntmps21;go_wp2_with fail;go_loopw [3,4] (λm i wr=>∃r:Nat,r<=n/\m=I_ J_ (Zcu L r)/\i=I_ J_ r/\Hid (K_ w wr)) (λ_ i _=>n-(intOf i).toNat)
 case atStart=>exact⟨0,ZO,rfl,rfl,HK⟩
 case round =>
  skip
  obtain⟨r,hr,rfl,rfl,HK⟩:=hrel;by_cases nE:r<n
  ·obtain⟨S,hS⟩:∃S,L[r]? = some S:=⟨_,ZX (by rw[←gR.out];exact nE)⟩;have cY:=HB.out S (ZY hS);have eD:=cY.1 r;have vC:=cY.2;have pU:=gA.out r ZO;have HS:=ZH hS;obtain⟨ck,B9⟩:∃ck,ck=S.clk.get r:=⟨_,rfl⟩;have lY:=ZH B9;rw[←B9]at eD;obtain⟨T,hT⟩:∃T,T=Zcu L r:=⟨_,rfl⟩;have HT:=ZH hT;rw[←hT]at pU ⊢;clear hS cY B9 hT;go_wp2_with fail;go_loopw [3,5] (λm i wr=>∃k:Nat,1<=k/\k<=ck+1/\m=I_ J_ ((T+ZeT L r S (k-1):Nat):Int)/\i=I_ J_ k/\Hid (K_ w wr)) (λ_ i _=>ck+1-(intOf i).toNat)
   case atStart=>exact⟨1,ZO,ZO,rfl,rfl,HK⟩
   case round =>
    skip
    obtain⟨k,dI,cX,rfl,rfl,HK⟩:=hrel;obtain⟨g,cap,_,_,hv,hg,gC,BY,_⟩:=(HA.out.below HK.out.below).look (by rw[←HL.out];exact HS.out);obtain rfl:av=some ⟨g,0,none⟩:=by injection hv
    have a1:=gC r ZO;rw[←lY.out]at a1;have r0:(0:Int)<=(r:Int):=ZO;have r5:(r:Int)<5:=ZO;have eE:=Zg4 (l:=L) (r:=r) (S:=S) (k-1);obtain⟨Q,hQ⟩:∃Q,Q=T+ZeT L r S (k-1):=⟨_,rfl⟩;have HQ:=ZH hQ;have hQ8:Q<=8000000:=ZO;rw[←hQ];clear hv gC eE hQ;by_cases ww:k<=ck
    ·have e1:decide ((k:Int)<=(S.sent:Int))=decide (k<=S.sent):=ZM;obtain⟨D,hD⟩:∃D,D=decide (k<=S.sent):=⟨_,rfl⟩;have HD:=ZH hD;rw[←hD]at e1;have e2:=hD.symm;clear hD;go_wp2_with fail;go_loopw [6,7] (λa i wr=>∃s:Nat,s<=n/\a=B_ (D&&(L.take s).all λT=>decide (k<=T.clk.get r))/\i=I_ J_ s/\Hid (K_ w wr)) (λ_ i _=>n-(intOf i).toNat)
     case atStart=>exact⟨0,ZO,ZM,rfl,HK⟩
     case round =>
      skip
      obtain⟨s,hs,rfl,rfl,HK⟩:=hrel;by_cases l8:s<n
      ·obtain⟨S2,lN⟩:∃S2,L[s]? = some S2:=⟨_,ZX (by rw[←gR.out];exact l8)⟩;obtain⟨g2,dy,_,_,tu,eQ,Gz,_⟩:=(HA.out.below HK.out.below).look (by rw[←HL.out];exact lN);obtain rfl:g2=g:=by
        injection tu with h1
        injection h1 with h1
        injection h1 with h1
        exact h1.symm
       have b1:=Gz r ZO;have iy:=ZrM (l:=L) (k:=k) (r:=r) lN;have kK:(D&&((L.take (s+1)).all λT=>decide (k<=T.clk.get r)))=((D&&((L.take s).all λT=>decide (k<=T.clk.get r)))&&decide (k<=S2.clk.get r)):=by rw[iy,Bool.and_assoc]
       obtain⟨E,hE⟩:∃E,E=(D&&((L.take s).all λT=>decide (k<=T.clk.get r))):=⟨_,rfl⟩;rw[←hE]at kK ⊢;have P1:=ZH kK;clear tu Gz iy kK hE lN
       cases E with
       |false =>
        go_wp2
        go_roundw
        case rel=>exact⟨s+1,ZO,by rw[P1.out];simp,ZN,HK⟩
        case measure=>simp[intOf];omega
       |true =>
        by_cases lr:k<=S2.clk.get r
        focus
         have f1:decide ((S2.clk.get r:Int)>=(k:Int))=true:=ZP
        rotate_left
        focus
         have f1:decide ((S2.clk.get r:Int)>=(k:Int))=false:=ZP
        rotate_left
        all_goals
         go_wp2
         go_roundw
         case rel=>exact⟨s+1,ZO,by rw[P1.out];simp[lr],ZN,HK⟩
         case measure=>simp[intOf];omega
      ·obtain rfl:s=n:=ZO;have ii:L.take s=L:=ZU (by rw[←gR.out];exact ZL _);have DW:(D&&((L.take s).all λT=>decide (k<=T.clk.get r)))=ZjJ L r S k:=by rw[ii,HD.out];rfl
       rw[DW];have kQ:ZeT L r S (k+1-1)=ZeT L r S (k-1)+if ZjJ L r S k=true then 0 else 1:=by
        obtain⟨j,rfl⟩:∃j,k=j+1:=⟨k-1,ZO⟩;rfl
       have AW:=ZH kQ;clear ii DW kQ
       cases xZ:ZjJ L r S k with
       |false =>
        have K8:=ZH xZ;clear xZ;go_wp2
        go_roundw
        case rel=>exact⟨k+1,ZO,ZO,by rw[AW.out,K8.out,←Nat.add_assoc,←HQ.out];go_num,ZN,HK⟩
        case measure=>simp[intOf];omega
       |true =>
        have K8:=ZH xZ;clear xZ;go_wp2
        go_roundw
        case rel=>exact⟨k+1,ZO,ZO,by rw[AW.out,K8.out,←Nat.add_assoc,←HQ.out];rfl,ZN,HK⟩
        case measure=>simp[intOf];omega
    ·obtain rfl:k=ck+1:=ZO;have IN:Zcu L (r+1)=Q:=by
      show Zcu L r+Zd4 L r=Q
      unfold Zd4;rw[HS.out,HQ.out,←HT.out,lY.out];rfl
     have DC:=ZH IN;clear IN;go_wp2
     go_roundw
     case rel=>exact⟨r+1,ZO,by rw[DC.out],ZN,HK⟩
     case measure=>simp[intOf];omega
  ·obtain rfl:r=n:=ZO;go_wp2
   go_ret;exact⟨ZM,HK.out.below⟩
theorem Zlv{B1 B2:Nat}{va vb:Value}{la lb:List SV}(ha:SiteRows B1 w va la)(hb:SiteRows B2 w vb lb)(h:la.map (·.1)=lb.map (·.1)):Calls prog 24 #[va,vb] w (Zx (B_ true) w):=by
 have hl:lb.length=la.length:=by
  have:=congrArg List.length h;simpa using this.symm
 obtain⟨aa,ca,rfl⟩:=Zl ha.row;obtain⟨ab,cb,rfl⟩:=Zl hb.row;have dF:=Zoz ha.row;obtain⟨HA,HB,HM,HK⟩:=ZH4 ha hb h (ZKr w);obtain⟨n,nQ⟩:∃n,n=la.length:=⟨_,rfl⟩;obtain⟨HN,HL⟩:=ZH2 nQ hl;rw[hl,←nQ];rw[←nQ]at dF;clear ha hb h hl nQ;go_enter func24,ntmps24;go_wp2_with fail;go_loopw [5] (λi wr=>∃q:Nat,q<=n/\i=I_ J_ q/\Hid (K_ w wr)) (λi _=>n-(intOf i).toNat)
 case atStart=>exact⟨0,ZO,rfl,HK⟩
 case round =>
  skip
  obtain⟨q,hq,rfl,HK⟩:=hrel;by_cases du:q<n
  ·obtain⟨p,hp⟩:∃p,la[q]? = some p:=⟨_,ZX (by rw[←HN.out];exact du)⟩;obtain⟨p',yp⟩:∃p',lb[q]? = some p':=⟨_,ZX (by rw[HL.out,←HN.out];exact du)⟩;have iu:p'.1=p.1:=by
    have h1:(la.map (·.1))[q]? = some p.1:=by rw[List.getElem?_map,hp];rfl
    rw[HM.out,List.getElem?_map,yp]at h1;simpa using h1
   obtain⟨g1,k1,vM,lm,_,fL⟩:=(HA.out.below HK.out.below).at_ hp;obtain⟨g2,k2,tu,eQ,_,kM⟩:=(HB.out.below HK.out.below).at_ yp;obtain rfl:aa=some ⟨g1,0,none⟩:=by injection vM
   obtain rfl:ab=some ⟨g2,0,none⟩:=by injection tu
   have h1:=(HA.out.below HK.out.below).held _ (ZY hp);have h2:=(HA.out.below HK.out.below).log _ (ZY hp);have h3:=(HB.out.below HK.out.below).held _ (ZY yp);have h4:=(HB.out.below HK.out.below).log _ (ZY yp);obtain⟨S,vh,vl⟩:=p;obtain⟨S',vh',PM⟩:=p';simp only at iu h1 h2 h3 h4;subst iu;have a0:=fL 0 _ rfl;have a1:=fL 1 _ rfl;have a2:=fL 2 _ rfl;have a3:=fL 3 _ rfl;have a4:=fL 4 _ rfl;have a5:=fL 5 _ rfl;have a6:=fL 6 _ rfl;have a7:=fL 7 _ rfl;have a8:=fL 8 _ rfl;have b0:=kM 0 _ rfl;have b1:=kM 1 _ rfl;have b2:=kM 2 _ rfl;have b3:=kM 3 _ rfl;have b4:=kM 4 _ rfl;have b5:=kM 5 _ rfl;have b6:=kM 6 _ rfl;have b7:=kM 7 _ rfl;have b8:=kM 8 _ rfl;simp only[Nat.add_zero]at a0 b0;have HS:=ZH (λW (hw:L_ wr W)=>Zrn S'.up S'.clk S'.sent (Ze h1 hw) (Ze h2 hw) (Ze h3 hw) (Ze h4 hw) rfl rfl);clear hp yp vM tu fL kM h1 h2 h3 h4;go_wp2_with fail;refine ZSi [(0,3),(1,3),(2,3),(3,0),(4,3),(5,3),(6,3),(7,0),(8,1),(9,3)] λcu=>?_
   repeat((first|refine ZSa ?_|refine ZSb ?_|refine ZSc ?_);simp only[Act.put,Q_])
   refine ZSd λK hK=>?_
   go_simp;refine(HS.out _ cu.below).mono ?_;rintro _ w1 ⟨rfl,cz⟩;refine hK.out (λw'=>K_ wr w') _ _ (λ_ h=>h) (cu.step cz) (λmq=>?_);have da:=ZH (HK.out.trans mq HK.out.le);clear hK K cu cz a0 a1 a2 a3 a4 a5 a6 a7 a8 b0 b1 b2 b3 b4 b5 b6 b7 b8 lm eQ;repeat((first|refine ZSa ?_|refine ZSb ?_|refine ZSc ?_);simp only[Act.put,Q_])
   refine ZSf ?_;go_wp2
   go_roundw
   case rel=>exact⟨q+1,ZO,ZN,da⟩
   case measure=>simp[intOf];omega
  ·obtain rfl:q=n:=ZO;go_wp2
   go_ret;exact⟨ZM,HK.out.below⟩
structure Sites0(own:Own)(B:Nat)(w:World)(v:Value)(l:List SV):Prop where
 rows:SiteRows B w v l
 mine:∀g,v.ownBlock=some g->own g=0
 held:∀q∈l,∀g,q.2.1.ownBlock=some g->own g=0
 log:∀q∈l,∀g,q.2.2.ownBlock=some g->own g=0
section
variable {own own':Own}{B:Nat}{w w':World}{v:Value}{l:List SV}{T:Nat->Prop}
theorem Sites0.make(h:SiteRows B w v l)(hf:∀g,B<=g->own g=0):Sites0 own B w v l :=
 ⟨h,λg hg=>hf g (Zb h.row hg).1,λq hq g hg=>hf g (Zb (h.held q hq) hg).1,λq hq g hg=>hf g (Zb (h.log q hq) hg).1⟩
theorem Sites0.upd(h:Sites0 own B w v l)(hu:Upd T own own' w w')(h0:¬T 0):Sites0 own' B w' v l:=by
 have hk:∀{e:TypeId} {sz n:Nat} {u:Value} {xs:List Value},w.ownsRow B e sz u n xs->(∀g,u.ownBlock=some g->own g=0)->w'.ownsRow B e sz u n xs/\∀g,u.ownBlock=some g->own' g=0:=λhr hz =>
  ⟨Zi hr λg hg hl=>hu.same g hl (by rw[hz g hg];exact h0),λg hg=>(hu.old g (Zb hr hg).2).trans (hz g hg)⟩
 exact⟨⟨(hk h.rows.row h.mine).1,λq hq=>(hk (h.rows.held q hq) (h.held q hq)).1,λq hq=>(hk (h.rows.log q hq) (h.log q hq)).1⟩,(hk h.rows.row h.mine).2,λq hq=>(hk (h.rows.held q hq) (h.held q hq)).2,λq hq=>(hk (h.rows.log q hq) (h.log q hq)).2⟩
theorem Sites0.below(h:Sites0 own B w v l)(hf:Fresh own w)(hb:L_ w w'):Sites0 own B w' v l:=h.upd (ZUb (T:=λ_=>False) hb hf) (λh=>h)
def Mine0(own:Own)(w:World)(b:Nat)(t:TypeId)(cs:Array Value):Prop:=Blk w b t cs/\own b=0
theorem Mine0.upd{b:Nat}{t:TypeId}{cs:Array Value}(h:Mine0 own w b t cs)(hu:Upd T own own' w w')(h0:¬T 0):Mine0 own' w' b t cs:=⟨h.1.upd hu (by rw[h.2];exact h0),(hu.old b h.1.lt).trans h.2⟩
theorem Mine0.below{b:Nat}{t:TypeId}{cs:Array Value}(h:Mine0 own w b t cs)(hb:L_ w w'):Mine0 own w' b t cs:=⟨h.1.ob hb,h.2⟩
end
theorem ZeU:¬ZgI 1 0:=λh=>absurd h.1 ZJ
theorem ZlL{u:Bool}{k l:Clk}{ac:List Clk}{op:Oper}{a:Act}{y:Operand}(ho:op.op=.load 56 y){g:Nat}(hx:a.eval y=P_ (some ⟨g,0,none⟩))(h:Blk w g 56 (Zt u k l ac))(h5:ac.length=5):(execOp a.eval op).run prog w=.ok (.value (Zbw u k l ac)) w:=by
 unfold execOp;simp only[ho,hx,Instr.loadAt,Instr.sureAddr,Sem.run_bind,Sem.run_pure,Result.andThen_ok,run_loadVar_row w _ _ _ _ _ _ h Zl9 rfl (ZbU _ _ _ h5)];rfl
theorem ZtR:prog.eqGuardType prog.depth 56=false:=ZK
theorem ZqE(u:Bool)(k l:Clk){ac:List Clk}(h5:ac.length=5)(w:World):(binOp .neq 56 (Zbw u k l ac) (Zbw u k l ac)).run prog w=.ok (B_ false) w:=by
 unfold Zbw;rw[run_neq_struct,show 10000=9996+1+1+1+1 from rfl,Zpa u u k l k l h5 h5];simp
theorem Znz{u:Bool}{k l:Clk}{ac:List Clk}{op:Oper}{a:Act}{y z:Operand}(ho:op.op=.binOp .neq 56 y z 56)(hy:a.eval y=Zbw u k l ac)(hz:a.eval z=Zbw u k l ac)(h5:ac.length=5):(execOp a.eval op).run prog w=.ok (.value (B_ false)) w:=by
 have hg:(eqGuard .neq 56 y z (Zbw u k l ac) (Zbw u k l ac)).run prog w=.ok () w:=run_eqGuard_agg _ _ _ _ _ _ _ ZtR;unfold execOp;simp only[ho,hy,hz,Sem.run_bind,ZqE u k l h5,Result.andThen_ok,Sem.run_pure,hg]
theorem In.rounds{own:Own}{w0 wr:World}{p:Nat}{c:Cfg}{q:Nat}{B:Bd}{x:WS}(h:In own 1 w0 wr p c q B x)(hc:c.Ok)(hq:q<=100)(N:Nat)(hN:N<=1000000):
  Calls prog 20 #[ptrV p,I_ J_ N] wr λe w'=>e=R_ (.tuple #[])/\∃own',Upd (ZgI 1) own own' wr w'/\∀B',WInv c B' q q (ZaW c N x)->In own' 1 w0 w' p c q B' (ZaW c N x):=by
 refine(Zik (t:=1) ZO h.at_ h.fresh h.inv hc hq ZO N hN).mono ?_;rintro e w' ⟨rfl,own',hw,hu⟩;exact⟨rfl,own',hu,λB' hi=>⟨hw,hi,h.upd.trans (hu.mono λn hn=>show n≠0 by have:=hn.1;omega)⟩⟩
end Go.Proofs.YtjkfognelhiepaaGreat
