import Derived.Test.YtjkfognelhiepaaGreatC22
import Derived.RangeFuncRecord
namespace Go.Proofs.YtjkfognelhiepaaGreat
open Go.RowKit _root_.Go.Proofs.Tryz
set_option maxRecDepth 100000
set_option maxHeartbeats 8000000
theorem ZsX{w:World}{B n:Nat}{a:Option Addr}{ss:List RawSt}(h:Reads w B 10 a n (ss.flatMap Zdi))(hn:n=ss.length){q:Nat}{s:RawSt}(hq:ss[q]? = some s):
  ∃ bk off,a=some ⟨bk,off,none⟩/\bk<B/\∀ j u,(Zdi s)[j]? = some u->w.cell? ⟨bk,off+q*10+j,none⟩=some u:=by
 have ce:q<ss.length:=(ZZ.1 hq).1;obtain⟨ad,rfl,hb,hc⟩:=h.2 ZO;obtain⟨bk,off,sp⟩:=ad;have hg:∀ (ss:List RawSt) (q:Nat) (s:RawSt),ss[q]? = some s->∀ j u,(Zdi s)[j]? = some u->(ss.flatMap Zdi)[q*10+j]? = some u:=by
  intro ss
  induction ss with
  | nil=>intro q s h;simp at h
  | cons x ss ih =>
   intro q s h j u hj;have hl:(Zdi x).length=10:=rfl;rw[List.flatMap_cons]
   cases q with
   | zero =>
    simp at h;subst h;have:j<10:=(ZZ.1 hj).1;rw[List.getElem?_append_left (by rw[hl];omega),Nat.zero_mul,Nat.zero_add];exact hj
   | succ q =>
    rw[List.getElem?_append_right (by rw[hl];omega),hl,show(q+1)*10+j-10=q*10+j by omega];exact ih q s (by simpa using h) j u hj
 have h0:=hc _ _ (hg ss 0 ss[0] (ZX ZO) 0 _ rfl);have S2:sp=none:=by
  have:=World.cell?_spot h0;simpa [Addr.add] using this
 subst S2;refine⟨bk,off,rfl,hb,λ j u hj=>?_⟩;have h1:=hc _ _ (hg ss q s hq j u hj);have e:Addr.add ⟨bk,off,none⟩ (q*10+j)=⟨bk,off+q*10+j,none⟩:=by
  unfold Addr.add;split
  ·rename_i h;have:q*10=0/\j=0:=ZO;rw[this.1,this.2];rfl
  ·rw[Nat.add_assoc]
 rw[←e];exact h1
section
def Zp(t:Nat)(n:Nat):Prop:=t<=n/\n<t+1000
def flsOf(l:List (Nat × Frm)):List Fl:=l.map λ q=>⟨q.1,Zk q.2⟩
structure WorldAt(own:Own)(t:Nat)(w:World)(p:Nat)(c:Cfg)(x:WS):Prop where
 mine:own p=t
 ex:∃ (a:Option Addr) (k hp lp:Nat) (ps:List Nat),Blk w p 82 #[.slice a c.n k,ptrV hp,ptrV lp]/\w.ownsRow 0 83 1 (.slice a c.n k) c.n (ps.map ptrV)/\(∀ g,(Value.slice a c.n k).ownBlock=some g->own g=t+1)/\ps.length=c.n /\
  (∀ r q,ps[r]? = some q->NodeAt own (t+100+10*r) w q c r (x.nodes r).s)/\HubIs own (t+200) w hp c x.hub.s/\LinkAt own (t+300) w lp (flsOf x.link)
section
variable {own own':Own}{t p:Nat}{w w':World}{c:Cfg}{x:WS}{T:Nat->Prop}
theorem NodeT.world{t r n:Nat}(hr:r<5)(h:NodeT (t+100+10*r) n):Zp t n:=by
 obtain⟨h1,h2⟩:=h;exact⟨ZO,ZO⟩
theorem NodeT.apart{t r r' n:Nat}(hr:r≠r')(h:NodeT (t+100+10*r) n):¬ NodeT (t+100+10*r') n:=by
 obtain⟨h1,h2⟩:=h;rintro⟨h3,h4⟩;omega
theorem HubT.world{t n:Nat}(h:HubT (t+200) n):Zp t n:=by
 obtain⟨h1,h2⟩:=h;exact⟨ZO,ZO⟩
theorem WorldAt.upd(h:WorldAt own t w p c x)(hu:Upd T own own' w w')(hT:∀ n,Zp t n->¬ T n)(h0:¬ T 0)(hc:c.n<=5):WorldAt own' t w' p c x:=by
 obtain⟨h1,a,k,hp,lp,ps,h2,h3,h4,h5,h6,h7,h8⟩:=h;refine⟨by rw[hu.old p h2.lt];exact h1,a,k,hp,lp,ps,h2.upd hu (by rw[h1];exact hT t ⟨ZO,ZO⟩),Zh h3 (λ g hg hl=>hu.same g hl (by rw[h4 g hg];exact hT _ ⟨ZO,ZO⟩)),λ g hg=>by rw[hu.old g (Zb h3 hg).2];exact h4 g hg,h5,λ r q hq=>?_,?_,h8.upd hu (hT _ ⟨ZO,ZO⟩) h0⟩
 ·have hr:r<5:=by have:=(ZZ.1 hq).1;omega
  exact(h6 r q hq).upd hu λ n hn=>hT n (hn.world hr)
 ·exact HubAt.upd h7 hu (λ n hn=>hT n hn.world) (by rw[h7.len];exact hc)
theorem Zkt(h:WorldAt own t w p c x)(r:Int):Calls prog 34 #[ptrV p,.int .i64 r] w (Zv (.bool (decide (0<=r/\r<c.n))) w):=by
 obtain⟨h1,a,k,hp,lp,ps,h2,h3,h4,h5,h6,h7,h8⟩:=h;obtain⟨c0,c1,c2⟩:=h2.three;have ce:=h2.lt;clear h1 h2 h3 h4 h5 h6 h7 h8;by_cases h0:0<=r;focus
  have hd:decide (0<=r/\r<(c.n:Int))=decide (r<(c.n:Int)):=by simp[h0]
 rotate_left
 focus
  have hd:decide (0<=r/\r<(c.n:Int))=false:=by simp[h0]
 rotate_left
 all_goals
  rw[hd];go_enter func34,ntmps34;go_wp2
  go_ret;exact⟨rfl,ZW _ _⟩
theorem WorldAt.node(h:WorldAt own t w p c x){r:Nat}(hr:r<c.n)(hc:c.n<=5):∃ g k hp lp q,Blk w p 82 #[.slice (some ⟨g,0,none⟩) c.n k,ptrV hp,ptrV lp]/\g<w.heap.size/\w.cell? ⟨g,r,none⟩=some (ptrV q)/\NodeAt own (t+100+10*r) w q c r (x.nodes r).s /\
  ∀ (own':Own) (w':World) (y:PN),Upd (NodeT (t+100+10*r)) own own' w w'->NodeAt own' (t+100+10*r) w' q c r y.s->WorldAt own' t w' p c ⟨Zch x.nodes r y,x.hub,x.link⟩:=by
 obtain⟨h1,a,k,hp,lp,ps,h2,h3,h4,h5,h6,h7,h8⟩:=h;have hq:=ZX (l:=ps) (i:=r) ZO;obtain⟨g,rfl,eB,bU⟩:=Zby h3 ZO;have ib:=bU r (by rw[List.length_map];omega);rw[List.getElem?_map,hq] at ib;refine⟨g,k,hp,lp,ps[r],h2,eB,ib,h6 r _ hq,λ own' w' y hu hn=>?_⟩;refine⟨by rw[hu.old p h2.lt];exact h1,_,k,hp,lp,ps,h2.upd hu (by rw[h1];rintro⟨h2,h3⟩;omega),Zh h3 (λ g hg hl=>hu.same g hl (by rw[h4 g hg];rintro⟨h2,h3⟩;omega)),λ g hg=>by rw[hu.old g (Zb h3 hg).2];exact h4 g hg,h5,λ r' q' jE=>?_,?_,h8.upd hu (by rintro⟨h2,h3⟩;omega) (by rintro⟨h2,h3⟩;omega)⟩
 ·by_cases e:r'=r
  ·subst e;rw[hq] at jE;injection jE with jE;subst jE;simp only[Zdj];exact hn
  ·simp only[Zcp e];exact(h6 r' q' jE).upd hu λ n hn=>hn.apart e
 ·exact HubAt.upd h7 hu (λ n hn=>by obtain⟨h2,h3⟩:=hn;rintro⟨h4,h5⟩;omega) (by rw[h7.len];exact hc)
theorem WorldAt.hub(h:WorldAt own t w p c x):∃ v hp lp,Blk w p 82 #[v,ptrV hp,ptrV lp]/\HubIs own (t+200) w hp c x.hub.s /\
  ∀ (own':Own) (w':World) (y:PH),c.n<=5->Upd (HubT (t+200)) own own' w w'->HubIs own' (t+200) w' hp c y.s->WorldAt own' t w' p c ⟨x.nodes,y,x.link⟩:=by
 obtain⟨h1,a,k,hp,lp,ps,h2,h3,h4,h5,h6,h7,h8⟩:=h;refine⟨_,hp,lp,h2,h7,λ own' w' y hc hu hn=>?_⟩;refine⟨by rw[hu.old p h2.lt];exact h1,a,k,hp,lp,ps,h2.upd hu (by rw[h1];rintro⟨h2,h3⟩;omega),Zh h3 (λ g hg hl=>hu.same g hl (by rw[h4 g hg];rintro⟨h2,h3⟩;omega)),λ g hg=>by rw[hu.old g (Zb h3 hg).2];exact h4 g hg,h5,λ r' q' jE=>?_,hn,h8.upd hu (by rintro⟨h2,h3⟩;omega) (by rintro⟨h2,h3⟩;omega)⟩;have hr:r'<5:=by have:=(ZZ.1 jE).1;omega
 exact(h6 r' q' jE).upd hu λ n hn=>by obtain⟨h2,h3⟩:=hn;rintro⟨h4,h5⟩;omega
theorem WorldAt.link(h:WorldAt own t w p c x):∃ v hp lp,Blk w p 82 #[v,ptrV hp,ptrV lp]/\LinkAt own (t+300) w lp (flsOf x.link) /\
  ∀ (own':Own) (w':World) (l:List (Nat × Frm)),c.n<=5->Upd (· = t+300) own own' w w'->LinkAt own' (t+300) w' lp (flsOf l)->WorldAt own' t w' p c ⟨x.nodes,x.hub,l⟩:=by
 obtain⟨h1,a,k,hp,lp,ps,h2,h3,h4,h5,h6,h7,h8⟩:=h;refine⟨_,hp,lp,h2,h8,λ own' w' l hc hu hn=>?_⟩;refine⟨by rw[hu.old p h2.lt];exact h1,a,k,hp,lp,ps,h2.upd hu (by rw[h1];omega),Zh h3 (λ g hg hl=>hu.same g hl (by rw[h4 g hg];omega)),λ g hg=>by rw[hu.old g (Zb h3 hg).2];exact h4 g hg,h5,λ r' q' jE=>?_,?_,hn⟩
 ·have hr:r'<5:=by have:=(ZZ.1 jE).1;omega
  exact(h6 r' q' jE).upd hu λ n hn=>by obtain⟨h2,h3⟩:=hn;omega
 ·exact HubAt.upd h7 hu (λ n hn=>by obtain⟨h2,h3⟩:=hn;omega) (by rw[h7.len];exact hc)
theorem ZaG(h:WorldAt own t w p c x){r:Nat}(hr:r<c.n):Calls prog 34 #[ptrV p,.int .i64 r] w (Zv (.bool true) w):=by
 have e:decide (0<=(r:Int)/\(r:Int)<c.n)=true:=ZP;have:=Zkt h r;rwa [e] at this
theorem Za5(h:WorldAt own t w p c x){r:Int}(hr:r<0∨(c.n:Int)<=r):Calls prog 34 #[ptrV p,.int .i64 r] w (Zv (.bool false) w):=by
 have e:decide (0<=(r:Int)/\(r:Int)<c.n)=false:=ZP;have:=Zkt h r;rwa [e] at this
end
end
section
theorem ZgA:∀ (f:Nat) (c:Clk) (w d:List Ev),(Za7 f c w d).1.length<=d.length+f
 | 0,c,w,d=>by simp[Za7]
 | f+1,c,w,d=>by
  unfold Za7
  cases Zbr c w with
  | none=>simp only;omega
  | some e =>
   have:=ZgA f (c.set e.r (c.get e.r+1)) (Zdp e.r e.n w) (d++[e]);simp only[ZI,List.length_singleton] at this ⊢;omega
theorem Zmb(c:Clk)(l:List Ev):(drained c l).1.length<=l.length:=by
 have h1:=ZgA (Zaf c l).length c (Zaf c l) [];have h2:=Zeq c l [];unfold drained;simp only[List.length_nil,Nat.zero_add] at h1 h2;exact ZT h1 h2
theorem Zkl(ws:List Ev)(key:ByteArray)(nF:Nat):(Zhy ws key nF).length<=ws.length:=by
 have h1:=Ze7 (ZaS ((Z0 ws key nF).map (·.value)));rw[Zb7,List.length_map] at h1;have h2:(Z0 ws key nF).length<=ws.length:=by
  unfold Z0 Zce;exact ZT (List.length_filter_le _ _) (List.length_filter_le _ _)
 exact ZT h1 h2
theorem Zk5(l cs:List Ev):(ZcQ l cs).length<=l.length:=List.length_filter_le _ _
theorem ZhP{α β : Type}{f : α -> List β}{K:Nat}:∀ {l:List α},(∀ x∈l,(f x).length<=K)->(l.flatMap f).length<=l.length*K
 | [],_=>ZM
 | x::l,h=>by
  have ih:=ZhP (l:=l) λ y hy=>h y (List.mem_cons_of_mem _ hy)
  have h1:=h x ZM;simp only[List.flatMap_cons,ZI,List.length_cons,Nat.add_mul,Nat.one_mul];omega
section
variable {c:Cfg}{r b:Nat}{B:Bd}{x:PN}{kind label:Nat}{key value:ByteArray}
theorem NodeInv.book(h:NodeInv c r B b x)(hu:x.s.up=true):BookInv x.s.log.length x.s.book:=by
 rw[(h.up hu).book];have:=(BookInv.nil 0).fold (l:=x.s.log) (h.log hu).ok;rwa [Nat.zero_add] at this
theorem NodeInv.bytes(h:NodeInv c r B b x)(_hr:r<5)(_hb:b+2*tot B.made<=1000):x.s.d.bytes.length<=1000000000:=by
 have:=h.disk.rows.big;omega
theorem NodeInv.aY(h:NodeInv c r B b x)(hu:x.s.up=true)(hb:tot B.made<=100)(i:Nat):x.s.clk.get i<=100:=by
 by_cases hi:i<5
 ·rw[h.clk hu];exact ZT ((h.log hu).az i) (ZcY hb hi)
 ·rw[Clk.aq _ ZO];omega
theorem NodeInv.cons(h:NodeInv c r B b x)(hu:x.s.up=true)(hb:tot B.made<=100):(listN x.s.book).length<=1000000/\∀ y∈listN x.s.book,y.s0.length<=1000000/\y.s1.length<=1000000:=by
 have hk:=(h.book hu).more (ZT (h.log hu).len hb);have cB:∀ k,((ZaH x.s.book k).getD []).length<=100:=λ k=>by
  cases hg:ZaH x.s.book k with
  | none=>simp
  | some l=>exact(hk.get hg).1
 constructor
 ·have:=ZhP (l:=ZaS (x.s.book.map (·.1))) (f:=λ k=>Zc1 ((ZaH x.s.book k).getD [])) (K:=100) (λ k _=>ZT (ZfZ _) (cB k));rw[Zb7,List.length_map] at this;have:=hk.keys;unfold listN;omega
 ·intro y hy;unfold listN at hy;obtain⟨k,dE,cJ⟩:=List.mem_flatMap.1 hy;unfold Zc1 at cJ;obtain⟨k',_,rfl⟩:=List.mem_map.1 cJ;have h1:=Zkl (ZcQ ((ZaH x.s.book k).getD []) (ZcJ ((ZaH x.s.book k).getD []))) k' 0;have h2:=Zkl (ZcQ ((ZaH x.s.book k).getD []) (ZcJ ((ZaH x.s.book k).getD []))) k' 1;have h3:=Zk5 ((ZaH x.s.book k).getD []) (ZcJ ((ZaH x.s.book k).getD []));have h4:=cB k;unfold Zbd;simp only;omega
theorem NodeInv.lists(h:NodeInv c r B b x)(hu:x.s.up=true)(hb:tot B.made<=100):x.s.book.length<=1000/\∀ y∈x.s.book,y.1.size<=1000000/\y.2.length<=100/\∀ e∈y.2,e.r<5:=by
 have hk:=(h.book hu).more (ZT (h.log hu).len hb);exact⟨ZT hk.keys ZO,hk.row⟩
theorem NodeInv.last(h:NodeInv c r B b x)(hu:x.s.up=true):x.s.clk.get r=lastOf x.s.sent x.s.wait:=by
 have hl:=h.log hu;rw[ZhU (l:=x.s.wait) (by rw[(h.up hu).wait,hl.wait,Nat.add_comm];exact(hl.row r).drop _),h.aJ hu,h.clk hu];have:=hl.sent;omega
theorem NodeInv.bu(h:NodeInv c r B b x)(hu:x.s.up=true)(hr:r<5)(hb:tot B.made<=100)(hs:b<=700)(he:EditOk kind key label value):MayEdit c r x.s kind key label value:=by
 obtain⟨h1,h2⟩:=h.lists hu hb;obtain⟨h3,h4⟩:=h.cons hu hb;have hl:=h.log hu;have hlen:=hl.len;have eO:=h.made hu hr hb he;have hw:=h.aJ hu;have uC:=hl.az r;have pY:=Zc5 (B:=B.made) hr;exact⟨he,hr,h1,h2,h3,h4,eO,λ i=>by have:=h.aY hu hb i;omega,by rw[ZhJ (c:=x.s.clk) (e:=madeEv r x.s kind key label value) hr rfl (Clk.bc _)];simp,h.last hu,ZO,ZO,hl.ok,h.bytes hr ZO,(h.book hu).more ZO⟩
theorem NodeInv.bz(h:NodeInv c r B b x)(hu:x.s.up=true)(hr:r<5)(hb:tot B.made<=100)(hs:b<=700){f:Frm}(hf:NodeFrm c B r f):MayTake c r x.s f:=by
 have hl:=h.log hu;have hlen:=hl.len;have hw:=h.aJ hu;have uL:=hl.sent;have uC:=hl.az r;have pY:=Zc5 (B:=B.made) hr;have hh:=(h.up hu).hlen;have jQ:=hf.ok.len;have eK:∀ e∈x.s.held++f.events,EvH c r B e:=λ e he=>by
  rcases List.mem_append.1 he with he | he
  ·exact(h.up hu).held e he
  ·exact hf.evs e he
 have jJ:=Zmb x.s.clk (x.s.held++f.events);rw[ZI] at jJ;refine⟨hf.ok,hr,hf.to,hf.kind,λ e he=>⟨(hf.evs e he).ne,(hf.evs e he).good.rn⟩,by rw[h.clk hu];omega,λ i=>by have:=h.aY hu hb i;omega,ZO,ZO,h.bytes hr ZO,λ e he=>(eK e he).good.ok,ZO,λ e he=>(eK e ((ZgB _ _).2 e he)).good.ok,(h.book hu).more ZO,ZO⟩
end
end
section
abbrev Zx(up:Bool)(c:Clk)(sent:Nat)(vh vl:Value):Array Value:=#[.bool up,.int .i64 c.c0,.int .i64 c.c1,.int .i64 c.c2,.int .i64 c.c3,.int .i64 c.c4,.int .i64 sent,vh,vl]
abbrev Zhz(up:Bool)(c:Clk)(sent:Nat)(vh vl:Value):Value := .agg (Zx up c sent vh vl)
theorem Zdl(up:Bool)(c:Clk)(sent:Nat)(vh vl:Value):(prog.info? 47).map (λ i=>i.size)=some (Zx up c sent vh vl).size:=ZK
theorem Zio(up:Bool)(k:Clk)(sent:Nat)(a b:Option Addr)(n c m d:Nat):(Zx up k sent (.slice a n c) (.slice b m d)).all (·.oneCell')=true:=by
 rw[Array.all_eq_true_iff_forall_mem];intro v hv;simp at hv;rcases hv with rfl | rfl | rfl | rfl | rfl | rfl | rfl | rfl | rfl <;> rfl
def MarkRow(base:Nat)(w:World)(v:Value)(es:List Ev):Prop:=w.ownsRow base 161 2 v es.length (ZcS (ZdP es))
def SitePost(s:NodeSt)(w:World)(e:Ending)(w':World):Prop :=
 if s.up=true then ∃ vh vl,e = .returned (Zhz true s.clk s.sent vh vl)/\MarkRow w.heap.size w' vh s.held/\MarkRow w.heap.size w' vl s.log/\Below w.heap.size w w'
 else e = .returned (Zhz false ZCz 0 (.slice none 0 0) (.slice none 0 0))/\Below w.heap.size w w'
theorem Zbg{w:World}{B:Nat}{e:TypeId}{sz n:Nat}{v:Value}{xs:List Value}(h:w.ownsRow B e sz v n xs):∃ a m c,v = .slice a m c:=by
 rcases h.2 with ⟨rfl,_⟩|⟨g2,cap,cur,rfl,_⟩
 ·exact⟨_,_,_,rfl⟩
 ·exact⟨_,_,_,rfl⟩
section
variable {own:Own}{t p r:Nat}{w:World}{c:Cfg}{s:NodeSt}
theorem Zpk(h:NodeAt own t w p c r s)(hf:Fresh own w)(hh:s.held.length<=1000000)(hl:s.log.length<=1000000):
  Calls prog 43 #[ptrV p] w (SitePost s w):=by
 obtain⟨h1,dp,bp,ip,op,lv,h3,h4,h5,h6,h7,h8⟩:=h;obtain⟨al,cl,rfl,eD⟩:=EvSl.ab h5.row;clear eD;have cD:=(ZW w.heap.size w).alloc (ZL _) (.cells (Zx false ZCz 0 (.slice none 0 0) (.slice none 0 0)) 47);have HZ:=ZH (ZBn w 47 (Zx false ZCz 0 (.slice none 0 0) (.slice none 0 0)));have df:Hid (Kept w.heap.size w (w.alloc (.cells (Zx false ZCz 0 (.slice none 0 0) (.slice none 0 0)) 47))):=ZH (⟨cD,cD.size⟩);have cX:Upd (λ _=>False) own own w (w.alloc (.cells (Zx false ZCz 0 (.slice none 0 0) (.slice none 0 0)) 47)):=ZUb cD hf;have hB:=h3.ob cD;obtain⟨c6,c7,c8,c9,cP,cR,dX,dY⟩:=hB.ag;have ce:=hB.lt;have dR:∀ (x:Bool) (w:World),(Op.unary .not (.bool x)).run prog w = .ok (.bool (!x)) w:=λ _ _=>rfl
 obtain⟨HB,HI,sF,HF,Np,gv⟩:=ZH6 hB (h7.upd cX (λ h=>h)) (h5.upd cX (λ h=>h)) cX.fresh hh hl;clear h3 h4 h5 h6 h7 h8 hf cD cX hB hh hl;obtain⟨up,d,log,sent,book,clk,held,wait⟩:=s;rcases up with _ | _
 ·go_enter func43,ntmps43
  go_wp2_with (first
   |(refine Zy rfl 47 rfl (Zx false ZCz 0 (.slice none 0 0) (.slice none 0 0)) ZK ?_)
   |(refine Zan rfl 47 _ rfl (Zx false ZCz 0 (.slice none 0 0) (.slice none 0 0)) ?hf ?_
     case hf=>kernel_rfl)
   |(refine wpList_store_row rfl 47 (.tmp 2) (.tmp 8) rfl w.heap.size (Zx false ZCz 0 (.slice none 0 0) (.slice none 0 0)) rfl rfl 47 (Zx false ZCz 0 (.slice none 0 0) (.slice none 0 0)) HZ.out (Zdl _ _ _ _ _) rfl (Zio _ _ _ _ _ _ _ _ _) ?_))
  refine bodyPost_ret (Zac rfl rfl (run_loadVar_row _ _ _ _ _ _ _ (HZ.out.row _) underlying47 rfl (Zdl _ _ _ _ _))) rfl ?_;exact⟨rfl,(df.out.row (ZL _) _).below⟩
 ·go_enter func43,ntmps43
  go_wp2_with (first
   |(refine Zy rfl 47 rfl (Zx false ZCz 0 (.slice none 0 0) (.slice none 0 0)) ZK ?_))
  generalize w.alloc (.cells (Zx false ZCz 0 (.slice none 0 0) (.slice none 0 0)) 47)=W at *;refine ZSi [(0,3),(1,0),(2,3),(3,0),(5,3),(6,0),(7,3),(8,0),(9,3),(10,0),(11,3),(12,0),(15,3),(16,0),(17,3),(18,0),(4,1),(13,1),(14,1),(19,1),(20,3),(21,2)] λ bR=>?_
  repeat((first | refine ZSa ?_ | refine ZSb ?_ | (refine Zf rfl (by rfl) (λ w' ci=>by(obtain⟨c6,c7,c8,c9,cP,cR,dX,dY⟩:=(HB.out.ob ci.below).ag);go_simp;with_reducible rfl) ?_));simp only[Act.put,ZA,ZB,ZC])
  refine ZSd λ K hK=>?_
  go_simp;have dh:Upd (λ _=>False) own own W W.drew:=ZUb (ZW W.heap.size W).drew HF.out;refine(Zet (HI.out.upd dh (λ h=>h))).mono ?_;rintro _ w2 ⟨rfl,bW⟩;refine hK.out (λ w'=>Kept W.heap.size W w') _ _ (λ _ h=>h) (bR.step bW) (λ bT=>?_);clear hK K bR bW dh;repeat((first | refine ZSa ?_ | refine ZSb ?_ | refine ZSc ?_);simp only[Act.put,ZA,ZB,ZC])
  refine ZSd λ K hK=>?_
  go_simp;have dh:Upd (λ _=>False) own own W w2:=ZUb bT.below HF.out;refine(ZnG (HI.out.upd dh (λ h=>h)) Np.out).mono ?_;rintro _ w3 ⟨v3,rfl,ew,bZ⟩;obtain⟨a3,c3,rfl,kQ⟩:=EvSl.ab ew;have iq:=ZH kQ;have E0:=bT.step bZ;refine hK.out (λ w'=>Kept W.heap.size W w') _ _ (λ _ h=>h) E0 (λ oq=>?_);clear hK K bT bZ dh kQ ew E0;refine ZSd λ K hK=>?_
  go_simp;refine(ZiV iq.out Np.out).mono ?_;rintro _ w4 ⟨v4,rfl,ie,cz⟩;have FO:MarkRow W.heap.size w4 v4 held:=Zi ie oq.le;have O4:=oq.step cz;obtain⟨b4,n4,d4,rfl⟩:=Zbg ie;have fU:=ZH FO;refine hK.out (λ w'=>Kept W.heap.size W w') _ _ (λ _ h=>h) O4 (λ vS=>?_);clear hK K oq cz ie FO O4;refine ZSd λ K hK=>?_
  go_simp;have dh:Upd (λ _=>False) own own W w4:=ZUb vS.below HF.out;refine(ZiV (EvSl.ab (sF.out.upd dh (λ h=>h)).row |> λ⟨_,_,e,h⟩=>by injection e with e1 e2 e3;subst e1 e3;exact h) gv.out).mono ?_;rintro _ w5 ⟨v5,rfl,eC,dw⟩;have FP:MarkRow W.heap.size w5 v5 log:=Zi eC vS.le;have J5:Hid (MarkRow W.heap.size w5 (.slice b4 n4 d4) held):=ZH (Ze fU.out dw);have O5:=vS.step dw;obtain⟨b5,n5,d5,rfl⟩:=Zbg eC;have gH:=ZH FP;refine hK.out (λ w'=>Kept W.heap.size W w') _ _ (λ _ h=>h) O5 (λ Ei=>?_);clear hK K vS dw eC FP O5 dh;repeat((first | refine ZSa ?_ | refine ZSb ?_ | refine ZSc ?_);simp only[Act.put,ZA,ZB,ZC])
  have BH:=HZ.out.ob Ei.below;obtain⟨z0,z1,z2,z3,z4,z5,z6,z7,z8⟩:=BH.aj;have zf:=BH.frozen;have GU:=zf 0;have GV:=zf 1;have GW:=zf 2;have GX:=zf 3;have GY:=zf 4;have Tw:=zf 5;have Tx:=zf 6;have Ty:=zf 7;have Tz:=zf 8;have oI:=BH.lt;have xU:=ZH BH;clear zf BH;refine ZSe λ K hK=>?_
  go_simp;refine hK.out _ _ ?_;clear hK K z0 z1 z2 z3 z4 z5 z6 z7 z8 GU GV GW GX GY Tw Tx Ty Tz oI;refine ZSf ?_;have vW:=Zaw xU.out (vs:=Zx true clk sent (.slice b4 n4 d4) (.slice b5 n5 d5)) rfl;obtain⟨W6,uz⟩:∃ W6,W6=setAll w5 w.heap.size 0 (Zx true clk sent (.slice b4 n4 d4) (.slice b5 n5 d5)).toList:=⟨_,rfl⟩;change Exit.then _ _ _ _ (setAll w5 w.heap.size 0 (Zx true clk sent (.slice b4 n4 d4) (.slice b5 n5 d5)).toList);rw[←uz] at vW ⊢;obtain⟨Aa,Ab⟩:=ZH2 uz vW;clear uz vW;go_wp2_with fail;refine bodyPost_ret (Zac rfl rfl (run_loadVar_row _ _ _ _ _ _ _ Ab.out underlying47 rfl (Zdl _ _ _ _ _))) rfl ?_;have dL:w.heap.size<W.heap.size:=HZ.out.lt;have hm:∀ v es,MarkRow W.heap.size w5 v es->MarkRow w.heap.size W6 v es:=λ v es h=>Zi (Zh h (λ g hg _=>by rw[Aa.out];exact Zaj (by have:=Zb h hg;omega) _ _ _)) df.out.le
  refine⟨_,_,rfl,hm _ _ J5.out,hm _ _ gH.out,?_⟩;rw[Aa.out];exact(ZaB (df.out.trans Ei df.out.le) (ZL _) 0 _).below
end
end
section
section
variable {own:Own}{t p r:Nat}{w:World}{c:Cfg}{s:NodeSt}
theorem Zjy(h:NodeAt own t w p c r s)(hu:s.up=false)(a:Option Addr)(n cap:Nat):Calls prog 51 #[ptrV p,.slice a n cap] w (Zv (.int .i64 18) w):=by
 obtain⟨h1,dp,bp,ip,op,lv,h3,h4,h5,h6,h7,h8⟩:=h;obtain⟨up,d,log,sent,book,clk,held,wait⟩:=s;simp only at hu h3;subst hu;obtain⟨c6,c7,c8,c9,cP,cR,dX,dY⟩:=h3.ag;have ce:=h3.lt;have dR:∀ (x:Bool) (w:World),(Op.unary .not (.bool x)).run prog w = .ok (.bool (!x)) w:=λ _ _=>rfl
 clear h3 h4 h5 h6 h7 h8;go_enter func51,ntmps51;go_wp2
 go_ret;exact⟨rfl,ZW _ _⟩
theorem Zjt(h:NodeAt own t w p c r s)(hu:s.up=false):Calls prog 41 #[ptrV p] w (Zv (.tuple #[.slice none 0 0,.int .i64 18]) w):=by
 obtain⟨h1,dp,bp,ip,op,lv,h3,h4,h5,h6,h7,h8⟩:=h;obtain⟨up,d,log,sent,book,clk,held,wait⟩:=s;simp only at hu h3;subst hu;obtain⟨c6,c7,c8,c9,cP,cR,dX,dY⟩:=h3.ag;have ce:=h3.lt;have dR:∀ (x:Bool) (w:World),(Op.unary .not (.bool x)).run prog w = .ok (.bool (!x)) w:=λ _ _=>rfl
 clear h3 h4 h5 h6 h7 h8;go_enter func41,ntmps41;go_wp2_with fail;go_ret2
 exact⟨rfl,ZW _ _⟩
theorem Zju(h:NodeAt own t w p c r s)(hu:s.up=false):Calls prog 37 #[ptrV p] w (Zv (.tuple #[.slice none 0 0,.int .i64 18]) w):=by
 obtain⟨h1,dp,bp,ip,op,lv,h3,h4,h5,h6,h7,h8⟩:=h;obtain⟨up,d,log,sent,book,clk,held,wait⟩:=s;simp only at hu h3;subst hu;obtain⟨c6,c7,c8,c9,cP,cR,dX,dY⟩:=h3.ag;have ce:=h3.lt;have dR:∀ (x:Bool) (w:World),(Op.unary .not (.bool x)).run prog w = .ok (.bool (!x)) w:=λ _ _=>rfl
 clear h3 h4 h5 h6 h7 h8;go_enter func37,ntmps37;go_wp2_with fail;go_ret2
 exact⟨rfl,ZW _ _⟩
theorem ZfL(h:NodeAt own t w p c r s)(hu:s.up=false)(kind:Int):Calls prog 76 #[ptrV p,.int .i64 kind] w (Zv (.tuple #[.slice none 0 0,.int .i64 18]) w):=by
 obtain⟨h1,dp,bp,ip,op,lv,h3,h4,h5,h6,h7,h8⟩:=h;obtain⟨up,d,log,sent,book,clk,held,wait⟩:=s;simp only at hu h3;subst hu;obtain⟨c6,c7,c8,c9,cP,cR,dX,dY⟩:=h3.ag;have ce:=h3.lt;have dR:∀ (x:Bool) (w:World),(Op.unary .not (.bool x)).run prog w = .ok (.bool (!x)) w:=λ _ _=>rfl
 clear h3 h4 h5 h6 h7 h8;go_enter func76,ntmps76;go_wp2_with fail;go_ret2
 exact⟨rfl,ZW _ _⟩
theorem ZiX(h:NodeAt own t w p c r s)(hu:s.up=false):Calls prog 40 #[ptrV p] w (Zv (.int .i64 18) w):=by
 obtain⟨h1,dp,bp,ip,op,lv,h3,h4,h5,h6,h7,h8⟩:=h;obtain⟨up,d,log,sent,book,clk,held,wait⟩:=s;simp only at hu h3;subst hu;obtain⟨c6,c7,c8,c9,cP,cR,dX,dY⟩:=h3.ag;have ce:=h3.lt;have dR:∀ (x:Bool) (w:World),(Op.unary .not (.bool x)).run prog w = .ok (.bool (!x)) w:=λ _ _=>rfl
 clear h3 h4 h5 h6 h7 h8;go_enter func40,ntmps40;go_wp2
 go_ret;exact⟨rfl,ZW _ _⟩
theorem ZiU(h:NodeAt own t w p c r s)(hu:s.up=false):Calls prog 38 #[ptrV p] w (Zv (.tuple #[.slice none 0 0,.int .i64 18]) w):=by
 have HT:=ZH (ZfL h hu 3);clear h;go_enter func38,ntmps38;go_wp2_with fail;refine HT.out.mono ?_;rintro _ w2 ⟨rfl,bW⟩;go_wp2_with fail;go_ret2
 exact⟨rfl,bW⟩
theorem ZkD(h:NodeAt own t w p c r s)(hu:s.up=false):Calls prog 39 #[ptrV p] w (Zv (.tuple #[.slice none 0 0,.int .i64 18]) w):=by
 have HT:=ZH (ZfL h hu 5);clear h;go_enter func39,ntmps39;go_wp2_with fail;refine HT.out.mono ?_;rintro _ w2 ⟨rfl,bW⟩;go_wp2_with fail;go_ret2
 exact⟨rfl,bW⟩
theorem Zjv(h:NodeAt own t w p c r s)(hu:s.up=false):Calls prog 43 #[ptrV p] w (Zv (Zhz false ZCz 0 (.slice none 0 0) (.slice none 0 0)) w):=by
 obtain⟨h1,dp,bp,ip,op,lv,h3,h4,h5,h6,h7,h8⟩:=h;have cD:=(ZW w.heap.size w).alloc (ZL _) (.cells (Zx false ZCz 0 (.slice none 0 0) (.slice none 0 0)) 47);have HZ:=ZH (ZBn w 47 (Zx false ZCz 0 (.slice none 0 0) (.slice none 0 0)));have df:Hid (Kept w.heap.size w (w.alloc (.cells (Zx false ZCz 0 (.slice none 0 0) (.slice none 0 0)) 47))):=ZH (⟨cD,cD.size⟩);have hB:=h3.ob cD;obtain⟨up,d,log,sent,book,clk,held,wait⟩:=s;simp only at hu hB;subst hu;obtain⟨c6,c7,c8,c9,cP,cR,dX,dY⟩:=hB.ag;have ce:=hB.lt;have dR:∀ (x:Bool) (w:World),(Op.unary .not (.bool x)).run prog w = .ok (.bool (!x)) w:=λ _ _=>rfl
 clear h3 h4 h5 h6 h7 h8 cD hB;go_enter func43,ntmps43
 go_wp2_with (first
  |(refine Zy rfl 47 rfl (Zx false ZCz 0 (.slice none 0 0) (.slice none 0 0)) ZK ?_)
  |(refine Zan rfl 47 _ rfl (Zx false ZCz 0 (.slice none 0 0) (.slice none 0 0)) ?hf ?_
    case hf=>kernel_rfl)
  |(refine wpList_store_row rfl 47 (.tmp 2) (.tmp 8) rfl w.heap.size (Zx false ZCz 0 (.slice none 0 0) (.slice none 0 0)) rfl rfl 47 (Zx false ZCz 0 (.slice none 0 0) (.slice none 0 0)) HZ.out (Zdl _ _ _ _ _) rfl (Zio _ _ _ _ _ _ _ _ _) ?_))
 refine bodyPost_ret (Zac rfl rfl (run_loadVar_row _ _ _ _ _ _ _ (HZ.out.row _) underlying47 rfl (Zdl _ _ _ _ _))) rfl ?_;exact⟨rfl,(df.out.row (ZL _) _).below⟩
theorem Zjs(h:NodeAt own t w p c r s)(hu:s.up=false)(kind label:Nat)(key value:ByteArray):
  Calls prog 35 #[ptrV p,ZeZ kind key label value] w (Zv (.tuple #[.agg (evArr ev0),.int .i64 18]) w):=by
 obtain⟨h1,dp,bp,ip,op,lv,h3,h4,h5,h6,h7,h8⟩:=h;have cD:=Zbu w (.cells #[.int .i64 kind,.string key,.int .i64 label,.string value] 33) (.cells Zj 89);have vQ:=(ZBn w 33 #[.int .i64 kind,.string key,.int .i64 label,.string value]).alloc (.cells Zj 89);have HZ:=ZH (Z6 w (.cells #[.int .i64 kind,.string key,.int .i64 label,.string value] 33) 89 Zj);have hB:=h3.ob cD;obtain⟨up,d,log,sent,book,clk,held,wait⟩:=s;simp only at hu hB;subst hu;obtain⟨c6,c7,c8,c9,cP,cR,dX,dY⟩:=hB.ag;have ce:=hB.lt;have dR:∀ (x:Bool) (w:World),(Op.unary .not (.bool x)).run prog w = .ok (.bool (!x)) w:=λ _ _=>rfl
 have di:=ZH cD;clear h3 h4 h5 h6 h7 h8 cD vQ hB;go_enter func35,ntmps35;go_wp2_with fail;refine bodyPost_ret (Zn rfl rfl rfl (run_loadVar_row _ _ _ _ _ _ _ HZ.out underlying89 rfl ZK)) rfl ?_;exact⟨rfl,di.out⟩
end
section
variable {own:Own}{t p:Nat}{w:World}{c:Cfg}{up:Bool}{d:Dk}{sh:List Sh}{told:List Clk}
theorem Zkz(h:HubAt own t w p c false d sh told)(a:Option Addr)(n cap:Nat):Calls prog 50 #[.pointer (some ⟨p,0,none⟩),.slice a n cap] w (Zv (.tuple #[.int .i64 (-1),.slice none 0 0,.int .i64 18]) w):=by
 obtain⟨dp,pp,h3,wz⟩:=h.ex;obtain⟨c0,c1,c2,c3,c4,c5,c6,c7,c8⟩:=h3.aj;have dR:∀ (x:Bool) (w:World),(Op.unary .not (.bool x)).run prog w = .ok (.bool (!x)) w:=λ _ _=>rfl
 clear h3 wz h;go_enter func50,ntmps50;go_wp2_with fail;go_ret3
 exact⟨rfl,ZW _ _⟩
theorem Zli(h:HubAt own t w p c true d sh told):Calls prog 47 #[.pointer (some ⟨p,0,none⟩)] w (Zv (.int .i64 19) w):=by
 obtain⟨dp,pp,h3,wz⟩:=h.ex;obtain⟨c0,c1,c2,c3,c4,c5,c6,c7,c8⟩:=h3.aj;clear h3 wz h;go_enter func47,ntmps47;go_wp2
 go_ret;exact⟨rfl,ZW _ _⟩
theorem Zky(h:HubAt own t w p c false d sh told):Calls prog 52 #[.pointer (some ⟨p,0,none⟩)] w (Zv (Zcl false sh told) w):=by
 obtain⟨h1,h2,dp,pp,h3,h4,h5⟩:=h;obtain⟨HZ,df⟩:=ZH2 (ZBn w 56 (Zt false ZCz ZCz (List.replicate 5 ZCz))) ((ZKr w).alloc (.cells (Zt false ZCz ZCz (List.replicate 5 ZCz)) 56));have pD:=h3.alloc (.cells (Zt false ZCz ZCz (List.replicate 5 ZCz)) 56);obtain⟨c0,c1,c2,c3,c4,c5,c6,c7,c8⟩:=pD.aj;have ce:=h3.lt;have A3:=pD.lt;clear pD h3 h4 h5;obtain⟨W0,gJ⟩:∃ W0,W0=w.alloc (.cells (Zt false ZCz ZCz (List.replicate 5 ZCz)) 56):=⟨_,rfl⟩;rw[←gJ] at HZ df c0 c1 c2 c3 c4 c5 c6 c7 c8 A3;have l5:=ZH gJ;clear gJ;have dR:∀ (x:Bool) (w:World),(Op.unary .not (.bool x)).run prog w = .ok (.bool (!x)) w:=λ _ _=>rfl
 go_enter func52,ntmps52
 go_wp2_with (first
  |(refine Zy rfl 56 rfl (Zt false ZCz ZCz (List.replicate 5 ZCz)) ZK ?_
    rw[←l5.out])
  |(refine Zan rfl 56 _ rfl (Zt false ZCz ZCz (List.replicate 5 ZCz)) ?hf ?_
    case hf=>kernel_rfl)
  |(refine wpList_store_row rfl 56 (.tmp 2) (.tmp 9) rfl w.heap.size (Zt false ZCz ZCz (List.replicate 5 ZCz)) rfl rfl 56 (Zt false ZCz ZCz (List.replicate 5 ZCz)) HZ.out (ZbR _ _ _ (acks:=List.replicate 5 ZCz) rfl) (by simp only[Zcb]) (Zdq _ _ _ _) ?_))
 refine bodyPost_ret (Zac rfl rfl (run_loadVar_row _ _ _ _ _ _ _ (HZ.out.row _) underlying56 rfl (ZbR _ _ _ (acks:=List.replicate 5 ZCz) rfl))) rfl ?_;exact⟨by simp[Zcl,Zc4],(df.out.row (ZL _) _).below⟩
end
end
section
section
variable {own:Own}{t p:Nat}{w:World}{c:Cfg}{up:Bool}{d:Dk}{sh:List Sh}{told:List Clk}
theorem ZjZ(h:HubAt own t w p c up d sh told)(hf:Fresh own w):
  Calls prog 46 #[.pointer (some ⟨p,0,none⟩)] w λ r w'=>r = .returned (.tuple #[])/\HubAt own t w' p c false d.aF sh told/\Upd (HubT t) own own w w':=by
 obtain⟨h1,h2,dp,pp,h3,h4,h5⟩:=h;obtain⟨c0,c1,c2,c3,c4,c5,c6,c7,c8⟩:=h3.aj;have f0:=h3.frozen 0;have ce:=h3.lt;have co:Upd (· = t) own own w (w.setCell ⟨p,0,none⟩ (.bool false)):=(Upd.refl (· = t) own w hf).setCell (p:=⟨p,0,none⟩) (λ _=>h1) _;have bS:Blk (w.setCell ⟨p,0,none⟩ (.bool false)) p 124 (hubStArr false (.pointer (some ⟨dp,0,none⟩)) c (.pointer (some ⟨pp,0,none⟩))):=h3.ai 0 _;have nO:=h4.upd co ZO;have j7:=ZH (h5.upd co (λ i _=>ZO));have e1:=bS.cell 1;obtain⟨dV,da,cL,qb⟩:=ZH4 (Zfq (w:=w.setCell ⟨p,0,none⟩ (.bool false)) (p:=p) (d:=dp) e1) co bS nO;clear co bS nO h3 h4 h5 e1;go_enter func46,ntmps46;go_wp2_with fail;refine dV.out.mono ?_;rintro _ w2 ⟨rfl,bW⟩;have cm:=da.out.kept bW;have fe:Upd (λ _=>False) own own (w.setCell ⟨p,0,none⟩ (.bool false)) w2:=ZUb bW da.out.fresh;obtain⟨HC,cH,q7,dc⟩:=ZH4 (Zf3 (qb.out.upd fe (λ h=>h)) cm.fresh) (cL.out.ob bW) (j7.out.upd fe (λ _ _ h=>h)) cm;clear cm fe bW;go_wp2_with fail;refine HC.out.mono ?_;rintro _ w3 ⟨rfl,iO,cO⟩;go_wp2_with fail;go_end0
 exact⟨rfl,⟨h1,h2,dp,pp,cH.out.upd cO ZO,iO,q7.out.upd cO (λ i _=>ZO)⟩,(dc.out.mono (λ n h=>⟨ZO,ZO⟩)).trans (cO.mono (λ n h=>⟨ZO,ZO⟩))⟩
theorem ZrS(h:HubAt own t w p c up d sh told)(hf:Fresh own w)(keep:Int):
  Calls prog 275 #[.pointer (some ⟨p,0,none⟩),.int .i64 keep] w λ r w'=>r = .returned (.tuple #[])/\HubAt own t w' p c up (d.aQ keep) sh told/\Upd (HubT t) own own w w':=by
 obtain⟨h1,h2,dp,pp,h3,h4,h5⟩:=h;have ce:=h3.lt;have e1:=h3.cell 1;obtain⟨dV,cL,qb,j7,HF⟩:=ZH5 (Zfq (w:=w) (p:=p) (d:=dp) e1) h3 h4 h5 hf;clear h3 h4 h5 e1 hf;go_enter func275,ntmps275;go_wp2_with fail;refine dV.out.mono ?_;rintro _ w2 ⟨rfl,bW⟩;have fe:Upd (λ _=>False) own own w w2:=ZUb bW HF.out;obtain⟨HC,cH,q7,dc⟩:=ZH4 (Zk8 keep (qb.out.upd fe (λ h=>h)) fe.fresh) (cL.out.ob bW) (j7.out.upd fe (λ _ _ h=>h)) fe;clear fe bW;go_wp2_with fail;refine HC.out.mono ?_;rintro _ w3 ⟨rfl,iO,cO⟩;go_wp2_with fail;go_end0
 exact⟨rfl,⟨h1,h2,dp,pp,cH.out.upd cO ZO,iO,q7.out.upd cO (λ i _=>ZO)⟩,(dc.out.mono (λ n h=>h.elim)).trans (cO.mono (λ n h=>⟨ZO,ZO⟩))⟩
end
end
section
section
variable {own:Own}{t p r b:Nat}{w:World}{c:Cfg}{B:Bd}{x:PN}
theorem Zeu(s:Bool):s=true∨s=false:=by cases s <;> simp
theorem ZiY(ht:0<t)(h:NodeAt own t w p c r x.s)(hf:Fresh own w)(hi:NodeInv c r B b x)(hr:r<5)(hb:tot B.made<=100)(hs:b<=700){f:Frm}(hg:NodeFrm c B r f){a:Option Addr}{n cap:Nat}(fX:Bytes w a n cap (Zk f)):
  Calls prog 51 #[ptrV p,.slice a n cap] w λ e w'=>e = .returned (.int .i64 (Zbf c r x f).2)/\∃ own',NodeAt own' t w' p c r (Zbf c r x f).1.s/\Upd (NodeT t) own own' w w':=by
 have e:=Zmp c r x f;have e1:(Zbf c r x f).1.s=(Zb5 c r x.s f).1:=congrArg Prod.fst e;have e2:(Zbf c r x f).2=(Zb5 c r x.s f).2:=congrArg Prod.snd e;rw[e1,e2];rcases Zeu x.s.up with hu | hu
 ·exact Zpl ht h hf (hi.bz hu hr hb hs hg) fX
 ·refine(Zjy h hu a n cap).mono ?_;rintro _ w' ⟨rfl,j9⟩;have hN:Zb5 c r x.s f=(x.s,18):=by unfold Zb5;rw[if_neg (by simp[hu])]
  rw[hN];have jL:Upd (NodeT t) own own w w':=ZUb j9 hf;exact⟨rfl,own,h.upd (ZUb (T:=λ _=>False) j9 hf) (λ _ _ h=>h),jL⟩
theorem Zdr(h:NodeAt own t w p c r x.s)(hf:Fresh own w)(hi:NodeInv c r B b x)(hr:r<5)(hc:c.Ok)(hb:tot B.made<=100):
  Calls prog 37 #[ptrV p] w (Zbl (Zbt c r x.s 1) w)/\Calls prog 38 #[ptrV p] w (Zbl (Zbt c r x.s 2) w)/\Calls prog 39 #[ptrV p] w (Zbl (Zbt c r x.s 3) w):=by
 rcases Zeu x.s.up with hu | hu
 ·have eb:∀ i,x.s.clk.get i<=1048576:=λ i=>by have:=hi.aY hu hb i;omega
  have hl:=hi.log hu;have xj:=hi.aJ hu;have uC:=hl.az r;have pY:=Zc5 (B:=B.made) hr;have hw:∀ e∈x.s.wait,e.Ok/\e.r=r:=λ e he=>by
   rw[(hi.up hu).wait,hl.wait] at he;obtain⟨h1,h2⟩:=Zjl.1 (List.mem_of_mem_drop he);exact⟨hl.ok e h1,h2⟩
  exact⟨Zpj h hf hr ZO hc.w4 hc.w1 hw,ZnT h hf hr eb,ZqA h hf hr eb⟩
 ·have dR:¬ x.s.up=true:=by simp[hu]
  have e1:Zbt c r x.s 1=(none,18):=by unfold Zbt Zgj;rw[if_pos rfl,if_neg dR]
  have e2:Zbt c r x.s 2=(none,18):=by unfold Zbt Zdw;rw[if_neg ZO,if_pos rfl,if_neg dR]
  have e3:Zbt c r x.s 3=(none,18):=by unfold Zbt Zdw;rw[if_neg ZO,if_neg ZO,if_neg dR]
  rw[e1,e2,e3];exact⟨(Zju h hu).mono λ e w' h=>h,(ZiU h hu).mono λ e w' h=>h,(ZkD h hu).mono λ e w' h=>h⟩
theorem Zms(h:NodeAt own t w p c r x.s)(hf:Fresh own w)(hi:NodeInv c r B b x)(hr:r<5)(hb:tot B.made<=100)(hs:b<=700):
  Calls prog 40 #[ptrV p] w λ e w'=>e = .returned (.int .i64 (Zc7 r x).2)/\∃ own',NodeAt own' t w' p c r (Zc7 r x).1.s/\Upd (NodeT t) own own' w w':=by
 rcases Zeu x.s.up with hu | hu
 ·have hl:=hi.log hu;have hlen:=hl.len;have uL:=hl.sent;have uC:=hl.az r;have pY:=Zc5 (B:=B.made) hr;exact ZnV h hf hr ZO hl.ok ZO (hi.bytes hr ZO)
 ·refine(ZiX h hu).mono ?_;rintro _ w' ⟨rfl,j9⟩;have hN:Zfj r x.s=(x.s,18):=by unfold Zfj;rw[if_neg (by simp[hu])]
  unfold Zc7;simp only[hN];exact⟨rfl,own,h.upd (ZUb (T:=λ _=>False) j9 hf) (λ _ _ h=>h),ZUb j9 hf⟩
theorem ZhW(ht:0<t)(h:NodeAt own t w p c r x.s)(hf:Fresh own w)(hi:NodeInv c r B b x)(hr:r<5)(hb:tot B.made<=100)(_hs:b<=700):
  Calls prog 45 #[ptrV p] w λ e w'=>e = .returned (.int .i64 (ZbS r x).2)/\∃ own',NodeAt own' t w' p c r (ZbS r x).1.s/\Upd (NodeT t) own own' w w':=by
 rcases Zeu x.s.up with hu | hu
 ·refine(ZkE h hu).mono ?_;rintro _ w' ⟨rfl,j9⟩;unfold ZbS;rw[if_pos hu];exact⟨rfl,own,h.upd (ZUb (T:=λ _=>False) j9 hf) (λ _ _ h=>h),ZUb j9 hf⟩
 ·obtain⟨h1,dp,bp,ip,op,lv,h3,h4,h5,h6,h7,h8⟩:=h;rw[hu] at h3;unfold ZbS;rw[if_neg (by simp[hu])];exact ZiW ht h1 h3 hf (.inl ⟨dp,rfl,h4⟩) hi.disk.rows (λ q=>by have:=(hi.disk.inv q).len;omega) (hi.disk.last.bK hr ZO)
theorem ZnU(h:NodeAt own t w p c r x.s)(hi:NodeInv c r B b x)(hb:tot B.made<=100):Calls prog 41 #[ptrV p] w (ListPost x.s w):=by
 rcases Zeu x.s.up with hu | hu
 ·obtain⟨h1,h2⟩:=hi.lists hu hb;exact Zpi h h1 h2
 ·refine(Zjt h hu).mono ?_;intro e w' h';unfold ListPost;rw[if_neg (by simp[hu])];exact h'
theorem Zgg(h:NodeAt own t w p c r x.s)(hf:Fresh own w)(hi:NodeInv c r B b x)(hb:tot B.made<=100):Calls prog 43 #[ptrV p] w (SitePost x.s w):=by
 rcases Zeu x.s.up with hu | hu
 ·have:=(hi.up hu).hlen;have:=(hi.log hu).len;exact Zpk h hf ZO ZO
 ·refine(Zjv h hu).mono ?_;intro e w' h';unfold SitePost;rw[if_neg (by simp[hu])];exact h'
end
section
variable {own:Own}{t p:Nat}{w:World}{c:Cfg}{B:Bd}{x:PH}
theorem Zj2(ht:0<t)(h:HubIs own t w p c x.s)(hf:Fresh own w)(hi:HubInv c B x)(hc:c.Ok)(hb:tot B.made<=100){f:Frm}(hg:HubFrm c B f){a:Option Addr}{n cap:Nat}(fX:Bytes w a n cap (Zk f)):
  Calls prog 50 #[.pointer (some ⟨p,0,none⟩),.slice a n cap] w (HTakePost own t p c w (Zax c x.s f)):=by
 rcases Zeu x.s.up with hu | hu
 ·obtain⟨g1,g2,g3⟩:=hi.up hu;have eQ:=hi.inv;rw[g3] at eQ
  exact Zql ht h hf hc (eQ.ok hc hb) (λ s hs e he=>by
   obtain⟨i,hi,rfl⟩:=List.getElem_of_mem hs
   exact((eQ.sh i _ (ZX hi)).all e he).1.ok) f hg.ok hg.r hg.kind (hi.bj hu hg) fX (by have:=hi.rows.big;omega)
 ·have h':=h;unfold HubIs at h';rw[hu] at h';refine(Zkz h' a n cap).mono ?_;rintro _ w' ⟨rfl,j9⟩;have hN:Zax c x.s f=(x.s,none,18):=by unfold Zax;rw[if_pos hu]
  rw[hN];have hl:=h.len;have h5:=hc.n5;exact⟨own,ZUb j9 hf,HubAt.upd h (ZUb (T:=λ _=>False) j9 hf) (λ _ _ h=>h) (show x.s.sh.length<=5 by omega),rfl⟩
theorem ZiO(ht:0<t)(h:HubIs own t w p c x.s)(hf:Fresh own w)(hi:HubInv c B x)(hc:c.Ok):
  Calls prog 47 #[.pointer (some ⟨p,0,none⟩)] w λ e w'=>e = .returned (.int .i64 (ZbZ c x).2)/\∃ own',HubIs own' t w' p c (ZbZ c x).1.s/\Upd (HubT t) own own' w w':=by
 rcases Zeu x.s.up with hu | hu
 ·have h':=h;unfold HubIs at h';rw[hu] at h';refine(Zli h').mono ?_;rintro _ w' ⟨rfl,j9⟩;unfold ZbZ;rw[if_pos hu];have hl:=h.len;have h5:=hc.n5;exact⟨rfl,own,HubAt.upd h (ZUb (T:=λ _=>False) j9 hf) (λ _ _ h=>h) (show x.s.sh.length<=5 by omega),ZUb j9 hf⟩
 ·obtain⟨h1,h2,dp,pp,h3,h4,h5⟩:=h;rw[hu] at h3;unfold ZbZ;rw[if_neg (by simp[hu])];exact Zj1 ht h1 h3 hf (.inl ⟨dp,rfl,h4⟩) hc hi.rows hi.rep
theorem Zj0(h:HubIs own t w p c x.s)(hf:Fresh own w)(hi:HubInv c B x)(hc:c.Ok)(hb:tot B.made<=100):
  Calls prog 52 #[.pointer (some ⟨p,0,none⟩)] w (Zv (Zcl x.s.up x.s.sh x.s.told) w):=by
 rcases Zeu x.s.up with hu | hu
 ·obtain⟨g1,g2,g3⟩:=hi.up hu;have eO:=hi.inv.ok hc hb;rw[g3] at eO;have hl:=h.len;have h5:=hc.n5;exact hub_site h hf ZO (λ s hs=>by have:=eO.kept s hs;have:=hc.w4;omega)
 ·have h':=h;unfold HubIs at h';rw[hu] at h' ⊢;refine(Zky h').mono ?_;rintro _ w' ⟨rfl,j9⟩;exact⟨by simp[Zcl],j9⟩
end
end
section
def Zcf(c:Cfg)(x:WS)(o:PH × Option (Nat × Frm) × Nat):WS :=
 match o.2.1 with
 | some p=>⟨Zch x.nodes p.1 (Zbf c p.1 (x.nodes p.1) p.2).1,o.1,x.link⟩
 | none=>⟨x.nodes,o.1,x.link⟩
def Zai(c:Cfg)(r:Nat)(x:WS)(kind:Nat):WS :=
 match (Zbt c r (x.nodes r).s kind).1 with
 | some g=>Zcf c x (Zr c x.hub g)
 | none=>x
def Zft(c:Cfg)(x:WS)(r:Nat):WS:=Zai c r (Zai c r (Zai c r x 1) 2) 3
def Zc6(c:Cfg)(x:WS):WS:=(List.range c.n).foldl (Zft c) x
def ZdV(c:Cfg)(x:WS):WS:=⟨λ r=>if r<c.n then(ZbS r (Zdf (x.nodes r))).1 else x.nodes r,(ZbZ c (Zde x.hub)).1,x.link⟩
structure StandN where
 up:Bool
 base:Clk
 len:Clk
 acks:List Clk
 nodes:List (Clk × Nat × Nat × Nat)
 deriving DecidableEq
def Zgp(x:PN):Clk × Nat × Nat × Nat:=if x.s.up=true then(x.s.clk,x.s.sent,x.s.held.length,x.s.log.length) else(ZCz,0,0,0)
def ZaI(c:Cfg)(x:WS):StandN :=
 ⟨x.hub.s.up,if x.hub.s.up=true then Zew x.hub.s.sh else ZCz,if x.hub.s.up=true then lenOf x.hub.s.sh else ZCz,if x.hub.s.up=true then Za9 x.hub.s.told else List.replicate 5 ZCz,(List.range 5).map λ r=>if r<c.n then Zgp (x.nodes r) else(ZCz,0,0,0)⟩
def goW(c:Cfg):Nat->WS->WS
 | 0,x=>x
 | k+1,x=>if ZaI c (Zc6 c x)=ZaI c x then Zc6 c x else goW c k (Zc6 c x)
def ZfO(c:Cfg)(n:Nat)(x:WS):WS:=goW c n (ZdV c x)
section
variable {c:Cfg}{B B':Bd}{m b:Nat}{x:WS}
theorem WInv.tell(h:WInv c B m b x)(hc:c.Ok)(hm:m<=100)(hb:b<=700){r:Nat}(hr:r<c.n)(kind:Nat):∃ B',B.le B'/\B'.made=B.made/\WInv c B' m b (Zai c r x kind):=by
 have ht:tot B.made<=100:=ZT h.sum hm;unfold Zai;split
 ·rename_i g hg;have hf:=((h.nodes r hr).tell hr hc ht hg).1;obtain⟨B',k1,k2,k3,k4,k5⟩:=h.aN hc hm hf;refine⟨B',k1,k2,?_⟩;unfold Zcf;split
  ·rename_i p hp;have hn:=(k5 p.1 p.2 hp).1;have tN:p.1<5:=by have:=hn.n;have:=hc.n5;omega
   obtain⟨e1,e2⟩:=(k3.nodes p.1 hn.n).take tN hc.h20 (by rw[k2];exact ht) hb hn;exact k3.setNode e1 e2
  ·exact k3
 ·exact⟨B,Bd.le.refl B,rfl,h⟩
theorem WInv.aL(h:WInv c B m b x)(hc:c.Ok)(hm:m<=100)(hb:b<=700){r:Nat}(hr:r<c.n):∃ B',B.le B'/\B'.made=B.made/\WInv c B' m b (Zft c x r):=by
 obtain⟨B1,a1,a2,a3⟩:=h.tell hc hm hb hr 1;obtain⟨B2,b1,b2,b3⟩:=a3.tell hc hm hb hr 2;obtain⟨B3,c1,c2,c3⟩:=b3.tell hc hm hb hr 3;exact⟨B3,(a1.trans b1).trans c1,by rw[c2,b2,a2],c3⟩
theorem WInv.turns(hc:c.Ok)(hm:m<=100)(hb:b<=700):∀ (l:List Nat) {B:Bd} {x:WS},WInv c B m b x->(∀ r∈l,r<c.n)->∃ B',B.le B'/\B'.made=B.made/\WInv c B' m b (l.foldl (Zft c) x)
 | [],B,x,h,_=>⟨B,Bd.le.refl B,rfl,h⟩
 | r::l,B,x,h,hl=>by
  obtain⟨B1,a1,a2,a3⟩:=h.aL hc hm hb (hl r ZM);obtain⟨B2,b1,b2,b3⟩:=WInv.turns hc hm hb l a3 λ q hq=>hl q (List.mem_cons_of_mem _ hq)
  exact⟨B2,a1.trans b1,by rw[b2,a2],b3⟩
theorem WInv.round(h:WInv c B m b x)(hc:c.Ok)(hm:m<=100)(hb:b<=700):∃ B',B.le B'/\B'.made=B.made/\WInv c B' m b (Zc6 c x) :=
 WInv.turns hc hm hb _ h λ r hr=>by simpa using hr
theorem WInv.be(h:WInv c B m b x)(hc:c.Ok)(hm:m<=100)(hb:b<=700):WInv c B m b ⟨(ZdV c x).nodes,x.hub,x.link⟩:=by
 have ht:tot B.made<=100:=ZT h.sum hm;have h5:=hc.n5;refine⟨λ r hr=>?_,λ r hr=>?_,h.hub,h.link,h.len,h.sum⟩
 ·simp only[ZdV,if_pos hr];exact(h.nodes r hr).aF.start ZO ZO
 ·simp only[ZdV,if_pos hr];rw[h.own r hr];unfold ZbS;split <;> rfl
theorem WInv.bI(h:WInv c B m b x)(hc:c.Ok)(hm:m<=100)(hb:b<=700):∃ B',B.le B'/\B'.made=B.made/\WInv c B' m b (ZdV c x):=by
 have h1:=h.be hc hm hb;obtain⟨H,hH,hi,hu⟩:=h1.hub;have h2:=h1.aA hH hi.aF (λ hu=>by simp[Zde] at hu);exact h2.aW hc hm
theorem WInv.go(hc:c.Ok)(hm:m<=100)(hb:b<=700):∀ (k:Nat) {B:Bd} {x:WS},WInv c B m b x->∃ B',B.le B'/\B'.made=B.made/\WInv c B' m b (goW c k x)
 | 0,B,x,h=>⟨B,Bd.le.refl B,rfl,h⟩
 | k+1,B,x,h=>by
  obtain⟨B1,a1,a2,a3⟩:=h.round hc hm hb;unfold goW;split
  ·exact⟨B1,a1,a2,a3⟩
  ·obtain⟨B2,b1,b2,b3⟩:=WInv.go hc hm hb k a3;exact⟨B2,a1.trans b1,by rw[b2,a2],b3⟩
theorem WInv.rounds(h:WInv c B m b x)(hc:c.Ok)(hm:m<=100)(hb:b<=700)(k:Nat):∃ B',B.le B'/\B'.made=B.made/\WInv c B' m b (ZfO c k x):=by
 obtain⟨B1,a1,a2,a3⟩:=h.bI hc hm hb;obtain⟨B2,b1,b2,b3⟩:=WInv.go hc hm hb k a3;exact⟨B2,a1.trans b1,by rw[b2,a2],b3⟩
end
end
section
structure Where where
 a:Option Addr
 k:Nat
 hp:Nat
 lp:Nat
 ps:List Nat
structure WorldIn(own:Own)(t:Nat)(w:World)(p:Nat)(c:Cfg)(x:WS)(Z:Where):Prop where
 mine:own p=t
 blk:Blk w p 82 #[.slice Z.a c.n Z.k,ptrV Z.hp,ptrV Z.lp]
 row:w.ownsRow 0 83 1 (.slice Z.a c.n Z.k) c.n (Z.ps.map ptrV)
 rown:∀ g,(Value.slice Z.a c.n Z.k).ownBlock=some g->own g=t+1
 len:Z.ps.length=c.n
 node:∀ r q,Z.ps[r]? = some q->NodeAt own (t+100+10*r) w q c r (x.nodes r).s
 hub:HubIs own (t+200) w Z.hp c x.hub.s
 link:LinkAt own (t+300) w Z.lp (flsOf x.link)
section
variable {own own':Own}{t p:Nat}{w w':World}{c:Cfg}{x:WS}{T:Nat->Prop}{Z:Where}
theorem WorldIn.at_(h:WorldIn own t w p c x Z):WorldAt own t w p c x :=
 ⟨h.mine,Z.a,Z.k,Z.hp,Z.lp,Z.ps,h.blk,h.row,h.rown,h.len,h.node,h.hub,h.link⟩
theorem WorldAt.bQ(h:WorldAt own t w p c x):∃ Z,WorldIn own t w p c x Z:=by
 obtain⟨h1,a,k,hp,lp,ps,h2,h3,h4,h5,h6,h7,h8⟩:=h;exact⟨⟨a,k,hp,lp,ps⟩,h1,h2,h3,h4,h5,h6,h7,h8⟩
theorem WorldIn.upd(h:WorldIn own t w p c x Z)(hu:Upd T own own' w w')(hT:∀ n,Zp t n->¬ T n)(h0:¬ T 0)(hc:c.n<=5):WorldIn own' t w' p c x Z:=by
 obtain⟨h1,h2,h3,h4,h5,h6,h7,h8⟩:=h;refine⟨by rw[hu.old p h2.lt];exact h1,h2.upd hu (by rw[h1];exact hT t ⟨ZO,ZO⟩),Zh h3 (λ g hg hl=>hu.same g hl (by rw[h4 g hg];exact hT _ ⟨ZO,ZO⟩)),λ g hg=>by rw[hu.old g (Zb h3 hg).2];exact h4 g hg,h5,λ r q hq=>?_,?_,h8.upd hu (hT _ ⟨ZO,ZO⟩) h0⟩
 ·have hr:r<5:=by have:=(ZZ.1 hq).1;omega
  exact(h6 r q hq).upd hu λ n hn=>hT n (hn.world hr)
 ·exact HubAt.upd h7 hu (λ n hn=>hT n hn.world) (by rw[h7.len];exact hc)
theorem WorldIn.setNode(h:WorldIn own t w p c x Z)(hc:c.n<=5){r q:Nat}(hq:Z.ps[r]? = some q){y:PN}(hu:Upd (NodeT (t+100+10*r)) own own' w w')(hn:NodeAt own' (t+100+10*r) w' q c r y.s):WorldIn own' t w' p c ⟨Zch x.nodes r y,x.hub,x.link⟩ Z:=by
 obtain⟨h1,h2,h3,h4,h5,h6,h7,h8⟩:=h;have eC:r<5:=by have:=(ZZ.1 hq).1;omega
 refine⟨by rw[hu.old p h2.lt];exact h1,h2.upd hu (by rw[h1];rintro⟨h2,h3⟩;omega),Zh h3 (λ g hg hl=>hu.same g hl (by rw[h4 g hg];rintro⟨h2,h3⟩;omega)),λ g hg=>by rw[hu.old g (Zb h3 hg).2];exact h4 g hg,h5,λ r' q' jE=>?_,?_,h8.upd hu (by rintro⟨h2,h3⟩;omega) (by rintro⟨h2,h3⟩;omega)⟩
 ·by_cases e:r'=r
  ·subst e;rw[hq] at jE;injection jE with jE;subst jE;simp only[Zdj];exact hn
  ·simp only[Zcp e];exact(h6 r' q' jE).upd hu λ n hn=>hn.apart e
 ·exact HubAt.upd h7 hu (λ n hn=>by obtain⟨h2,h3⟩:=hn;rintro⟨h4,h5⟩;omega) (by rw[h7.len];exact hc)
theorem WorldIn.aA(h:WorldIn own t w p c x Z)(hc:c.n<=5){y:PH}(hu:Upd (HubT (t+200)) own own' w w')(hn:HubIs own' (t+200) w' Z.hp c y.s):WorldIn own' t w' p c ⟨x.nodes,y,x.link⟩ Z:=by
 obtain⟨h1,h2,h3,h4,h5,h6,h7,h8⟩:=h;refine⟨by rw[hu.old p h2.lt];exact h1,h2.upd hu (by rw[h1];rintro⟨h2,h3⟩;omega),Zh h3 (λ g hg hl=>hu.same g hl (by rw[h4 g hg];rintro⟨h2,h3⟩;omega)),λ g hg=>by rw[hu.old g (Zb h3 hg).2];exact h4 g hg,h5,λ r' q' jE=>?_,hn,h8.upd hu (by rintro⟨h2,h3⟩;omega) (by rintro⟨h2,h3⟩;omega)⟩;have hr:r'<5:=by have:=(ZZ.1 jE).1;omega
 exact(h6 r' q' jE).upd hu λ n hn=>by obtain⟨h2,h3⟩:=hn;rintro⟨h4,h5⟩;omega
theorem WorldIn.cells(h:WorldIn own t w p c x Z)(h0:0<c.n):∃ g,Z.a=some ⟨g,0,none⟩/\g<w.heap.size/\own g=t+1/\∀ (r q:Nat),Z.ps[r]? = some q->w.cell? ⟨g,r,none⟩=some (ptrV q):=by
 obtain⟨g,hg,eB,bU⟩:=Zby h.row h0;have cT:=h.rown;rw[hg] at cT;refine⟨g,hg,eB,cT g rfl,λ r q hq=>?_⟩;have hr:=(ZZ.1 hq).1;have ib:=bU r (by rw[List.length_map];exact hr);rw[List.getElem?_map,hq] at ib;exact ib
end
def RoundT(t n:Nat):Prop:=Zp t n∨n=t+6001
structure RoundAt(own:Own)(t:Nat)(w:World)(p:Nat)(c:Cfg)(m b l:Nat)(R:Loop)(Z:Where)(x:WS):Prop where
 at_:WorldIn own t w p c x Z
 fresh:Fresh own w
 inv:∃ B,WInv c B m b x
 loop:w.heap[l]? = some (.loop R)
 own:own l=t+6001
section
variable {own own' cF:Own}{t p m b l:Nat}{w w' w1:World}{c:Cfg}{x:WS}{T:Nat->Prop}{Z:Where}{R R':Loop}
theorem RoundAt.upd(h:RoundAt own t w p c m b l R Z x)(hu:Upd T own own' w w')(hT:∀ n,RoundT t n->¬ T n)(h0:¬ T 0)(hc:c.n<=5):RoundAt own' t w' p c m b l R Z x:=by
 have hl:l<w.heap.size:=(Array.getElem?_eq_some_iff.1 h.loop).1;exact⟨h.at_.upd hu (λ n hn=>hT n (.inl hn)) h0 hc,hu.fresh,h.inv,(hu.same l hl (by rw[h.own];exact hT _ (.inr rfl))).trans h.loop,(hu.old l hl).trans h.own⟩
theorem RoundAt.below(h:RoundAt own t w p c m b l R Z x)(hb:Below w.heap.size w w')(hc:c.n<=5):RoundAt own t w' p c m b l R Z x/\Upd (RoundT t) own own w w' :=
 ⟨h.upd (T:=λ _=>False) (ZUb hb h.fresh) (λ _ _ h=>h) (λ h=>h) hc,ZUb hb h.fresh⟩
theorem Upd.putObj{w w1:World}{g:Nat}(h:Upd T own own' w w1)(hg:g<w.heap.size->T (own g))(o:Obj):Upd T own own' w (w1.putObj g o) :=
 ⟨h.os,h.tape,h.output,by rw[World.putObj_size];exact h.size,h.old,λ b hb hn=>(World.putObj_heap_other (λ e=>hn (by rw[e];exact hg (e▸hb)))).trans (h.same b hb hn),λ b hb=>h.fresh b (by rw[World.putObj_size] at hb;exact hb)⟩
theorem RoundAt.aL(ht:0<t)(h:RoundAt own t w p c m b l R Z x)(R':Loop)(hc:c.n<=5):RoundAt own t (w.putObj l (.loop R')) p c m b l R' Z x/\Upd (RoundT t) own own w (w.putObj l (.loop R')):=by
 have hl:l<w.heap.size:=(Array.getElem?_eq_some_iff.1 h.loop).1;have hu:Upd (· = t+6001) own own w (w.putObj l (.loop R')):=(Upd.refl (· = t+6001) own w h.fresh).putObj (λ _=>h.own) _;exact⟨⟨h.at_.upd hu (λ n hn=>by obtain⟨h1,h2⟩:=hn;omega) ZO hc,hu.fresh,h.inv,World.putObj_heap_same hl,h.own⟩,hu.mono λ n hn => .inr hn⟩
end
end
section
section
variable {own:Own}{t p m b:Nat}{w:World}{c:Cfg}{B:Bd}{x:WS}
abbrev Zrr(to:Nat)(v:Value):Value := .agg #[.int .i64 to,v]
theorem Zfk(ht:0<t)(h:WorldAt own t w p c x)(hf:Fresh own w)(hi:WInv c B m b x)(hc:c.Ok)(hm:m<=100)(hb:b<=700){to:Nat}{f:Frm}(hg:FlG c B (to,f)){a:Option Addr}{n cap:Nat}(fX:Bytes w a n cap (Zk f)):
  Calls prog 61 #[ptrV p,Zrr to (.slice a n cap)] w λ e w'=>e = .returned (.int .i64 (Zb8 c x to f).2)/\∃ own',WorldAt own' t w' p c (Zb8 c x to f).1/\Upd (Zp t) own own' w w':=by
 have h5:=hc.n5;have eo:tot B.made<=100:=ZT hi.sum hm;have cD:=(ZW w.heap.size w).alloc (ZL _) (.cells #[.int .i64 to,.slice a n cap] 136);have hX:=ZBn w 136 #[.int .i64 to,.slice a n cap];have cX:Upd (λ _=>False) own own w (w.alloc (.cells #[.int .i64 to,.slice a n cap] 136)):=ZUb cD hf;obtain⟨HW,j6⟩:=ZH2 (h.upd cX (λ _ _ h=>h) (λ h=>h) h5) (fX.kept cD (ZL _));obtain⟨x0,x1⟩:=hX.two;have fy:=hX.lt;obtain⟨HU,HX,HI,HG,HC⟩:=ZH5 cX hX hi hg hc;clear h hf hi hg fX cD hX cX;go_enter func61,ntmps61;go_wp2_with fail;generalize (w.alloc (.cells #[.int .i64 to,.slice a n cap] 136))=W at *;by_cases hn:to<c.n
 ·refine(ZaG HW.out hn).mono ?_;rintro _ w1 ⟨rfl,bS⟩;have co:Upd (λ _=>False) own own W w1:=ZUb bS HU.out.fresh;have dl:=HW.out.upd co (λ _ _ h=>h) (λ h=>h) h5;obtain⟨g,k,hp,lp,q,bY,eB,bU,de,eS⟩:=dl.node hn h5;have pY:NodeFrm c B to f:=by
   rcases HG.out with ⟨_,h⟩|⟨h,_⟩
   ·exact h
   ·simp only at h;omega
  have fJ:(0:Int)<=(to:Int):=ZO;have km:(to:Int)<(c.n:Int):=ZO;obtain⟨HB,mR,HN,jm,da,fA,pm,Ib⟩:=ZH8 bY bU de eS (HU.out.trans co) (HX.out.ob bS) (j6.out.kept bS (ZL _)) pY;clear bS co dl bY bU de eS pY x0 x1 fy;go_wp2_with fail;refine ZSi [(0,3),(1,0),(2,3),(3,0),(4,3),(5,0),(6,3),(7,0),(8,3),(9,0),(10,2),(11,3)] λ bR=>?_
  repeat((first | refine ZSa ?_ | refine ZSb ?_ | (refine Zf (v:=?_) rfl (by rfl) ?_ ?_;rotate_left 1;(intro w' ci;(obtain⟨c0,c1,c2⟩:=(HB.out.ob ci.below).three);(obtain⟨x0,x1⟩:=(fA.out.ob ci.below).two);(have ib:=(ci.below.cell (p:=⟨g,to,none⟩) eB).trans mR.out);go_simp;with_reducible rfl)));simp only[Act.put,ZA,ZB,ZC])
  refine ZSe λ K hK=>?_
  go_simp;have dk:Upd (λ _=>False) own own w1 w1.drew:=ZUb (ZW w1.heap.size w1).drew da.out.fresh;refine(ZiY ZO (HN.out.upd dk (λ _ _ h=>h)) dk.fresh (HI.out.nodes _ hn) ZO eo hb Ib.out (pm.out.kept (ZW w1.heap.size w1).drew (ZL _))).mono ?_;rintro _ w2 ⟨rfl,cg,fe,cm⟩;have cO:=(dk.mono (T':=NodeT (t+100+10*to)) (λ n h=>h.elim)).trans cm;have dK:=jm.out _ _ _ cO fe;have dS:Upd (Zp t) own cg w w2:=(da.out.mono (λ n h=>h.elim)).trans (cO.mono (λ n h=>h.world ZO));obtain⟨eJ,fF⟩:=ZH2 dK dS;refine hK.out _ _ ?_;clear hK K bR dk fe cm cO dK dS;repeat((first | refine ZSa ?_ | refine ZSb ?_ | refine ZSc ?_);simp only[Act.put,ZA,ZB,ZC])
  refine ZSf ?_;go_wp2
  go_ret;unfold Zb8;rw[if_pos hn];exact⟨rfl,cg,eJ.out,fF.out⟩
 ·refine(Za5 HW.out (.inr ZO)).mono ?_;rintro _ w1 ⟨rfl,bS⟩;have co:Upd (λ _=>False) own own W w1:=ZUb bS HU.out.fresh;have dl:=HW.out.upd co (λ _ _ h=>h) (λ h=>h) h5;obtain⟨vn,hp,lp,bY,fI,eS⟩:=dl.hub;have pY:HubFrm c B f:=by
   rcases HG.out with ⟨h,_⟩|⟨_,h⟩
   ·exact absurd h hn
   ·exact h
  obtain⟨HB,HN,jm,da,fA,pm,Ib⟩:=ZH7 bY fI eS (HU.out.trans co) (HX.out.ob bS) (j6.out.kept bS (ZL _)) pY;clear bS co dl bY fI eS pY x0 x1 fy;go_wp2_with fail;refine ZSi [(0,3),(1,0),(2,3),(3,0),(4,3),(5,0),(6,2),(7,3),(8,3),(9,3),(10,3),(11,3),(12,3),(13,3)] λ bR=>?_
  repeat((first | refine ZSa ?_ | refine ZSb ?_ | (refine Zf rfl (by rfl) (λ w' ci=>by(obtain⟨c0,c1,c2⟩:=(HB.out.ob ci.below).three);(obtain⟨x0,x1⟩:=(fA.out.ob ci.below).two);go_simp;with_reducible rfl) ?_));simp only[Act.put,ZA,ZB,ZC])
  refine ZSe λ K hK=>?_
  go_simp;have dk:Upd (λ _=>False) own own w1 w1.drew:=ZUb (ZW w1.heap.size w1).drew da.out.fresh;obtain⟨HH,hH,o6,hhu⟩:=HI.out.hub;refine(Zj2 ZO (HubAt.upd HN.out dk (λ _ _ h=>h) (by have:=HN.out.len;omega)) dk.fresh o6 HC.out eo (Ib.out.more (Bd.aH hH)) (pm.out.kept (ZW w1.heap.size w1).drew (ZL _))).mono ?_;intro r2 w2 hP;obtain⟨y0,y1,y2,rfl⟩:=hP.shape;obtain⟨cg,cm,rz,fm⟩:=hP;have cO:=(dk.mono (T':=HubT (t+200)) (λ n h=>h.elim)).trans cm;have dK:=jm.out _ _ (Zr c x.hub f).1 h5 cO rz;have dS:Upd (Zp t) own cg w w2:=(da.out.mono (λ n h=>h.elim)).trans (cO.mono (λ n h=>h.world));obtain⟨eJ,fF,jN⟩:=ZH3 dK dS fm;refine hK.out _ _ ?_;clear hK K bR dk cm rz cO dK dS fm;repeat((first | refine ZSa ?_ | refine ZSb ?_ | refine ZSc ?_);simp only[Act.put,ZA,ZB,ZC])
  refine ZSf ?_
  cases ho:(Zax c x.hub.s f).2.1 with
  | some pr =>
   have fm:=jN.out;rw[ho] at fm;obtain⟨v,e,cB,ke⟩:=fm;simp only[Ending.returned.injEq,Value.tuple.injEq,Array.mk.injEq,List.cons.injEq,and_true] at e;obtain⟨rfl,rfl,rfl⟩:=e;have sg:((0:Int)==0)=true:=rfl;obtain⟨B',k1,k2,k3,k4,k5⟩:=HI.out.aN HC.out hm Ib.out;have gA:=(k5 pr.1 pr.2 ho).1;obtain⟨JO,Jm⟩:=ZH2 gA.n gA.ok;have mc:Hid ((Zr c x.hub f).2.2=0):=ZH (k5 pr.1 pr.2 ho).2;have HO:=ZH ho;clear k1 k2 k3 k4 k5 gA ho;go_wp2_with fail;refine(ZaG eJ.out JO.out).mono ?_;rintro _ w3 ⟨rfl,bZ⟩;have gS:Upd (λ _=>False) cg cg w2 w3:=ZUb bZ fF.out.fresh;have oR:=eJ.out.upd gS (λ _ _ h=>h) (λ h=>h) h5;obtain⟨vn,gi,lp3,bY,kV,eS⟩:=oR.link;obtain⟨c0,c1,c2⟩:=bY.three;have np:=bY.lt;obtain⟨av,kv,rfl,fX⟩:=Bytes.ab cB;have hS:=Zj7 kV gS.fresh (by unfold flsOf;rw[List.length_map];have:=HI.out.len;simp only;omega) ZO pr.1 (fX.kept bZ (ZL _)) (by have:=ZcI Jm.out;omega);obtain⟨HS,jn,J8⟩:=ZH3 hS gS eS;clear cB bZ gS oR bY kV eS fX hS c0 c1;go_wp2_with fail;refine HS.out.mono ?_;rintro _ w4 ⟨rfl,dG,wI,gT⟩;have lX:=J8.out _ _ (x.link++[pr]) h5 gT (by unfold flsOf at wI ⊢;rw[List.map_append];exact wI);have ju:Hid (Upd (Zp t) own dG w w4):=ZH ((fF.out.trans (jn.out.mono (λ n h=>h.elim))).trans (gT.mono (λ n h=>⟨ZO,ZO⟩)));have qj:=ZH lX;clear lX wI gT;go_wp2
   go_ret;unfold Zb8;have lO:(Zr c x.hub f).2.1=some pr:=HO.out;rw[if_neg hn,mc.out,lO];exact⟨rfl,dG,qj.out,ju.out⟩
  | none =>
   have fm:=jN.out;rw[ho] at fm;have e:Ending.returned (.tuple #[y0,y1,y2]) = .returned (.tuple #[.int .i64 (-1),.slice none 0 0,.int .i64 ((Zr c x.hub f).2.2:Nat)]):=fm;simp only[Ending.returned.injEq,Value.tuple.injEq,Array.mk.injEq,List.cons.injEq,and_true] at e;obtain⟨rfl,rfl,rfl⟩:=e;have lO:(Zr c x.hub f).2.1=none:=ho;have HO:=ZH lO;clear fm ho lO
   have mm:Hid (∃ own',WorldAt own' t w2 p c (Zb8 c x to f).1/\Upd (Zp t) own own' w w2):=ZH ⟨cg,by
    unfold Zb8;rw[if_neg hn,HO.out];simp only[List.append_nil]
    exact eJ.out,fF.out⟩
   have tx:(Zb8 c x to f).2=(Zr c x.hub f).2.2:=by unfold Zb8;rw[if_neg hn]
   obtain⟨k,hk⟩:∃ k,k=(Zr c x.hub f).2.2:=⟨_,rfl⟩;rw[←hk] at tx ⊢;have Nf:=ZH tx;clear hk tx;by_cases cA:k=0
   ·subst cA;have sg:(((0:Nat):Int)==0)=true:=rfl;go_wp2_with fail;refine(Za5 eJ.out (.inl ZO)).mono ?_;rintro _ w3 ⟨rfl,bZ⟩;obtain⟨own',PD,jL⟩:=mm.out;have gS:Upd (λ _=>False) own' own' w2 w3:=ZUb bZ jL.fresh;obtain⟨nJ,dI⟩:=ZH2 (PD.upd gS (λ _ _ h=>h) (λ h=>h) h5) (jL.trans (gS.mono (T':=Zp t) (λ n h=>h.elim)));clear gS PD jL bZ;go_wp2
    go_ret;exact⟨by rw[Nf.out];rfl,own',nJ.out,dI.out⟩
   ·have sg:((k:Int)==0)=false:=ZP;go_wp2
    go_ret;exact⟨by rw[Nf.out];rfl,mm.out⟩
end
end
theorem Zlj{own:Own}{t p:Nat}{w:World}{c:Cfg}{s:HubSt}(h:HubIs own t w p c s){l:List Nat}{a:Option Addr}{n cap:Nat}(hb:Bytes w a n cap l)(hs:∀ x∈l,x<256)(hn:n<=2048)(gr:¬ Zdm l):
  Calls prog 50 #[.pointer (some ⟨p,0,none⟩),.slice a n cap] w (Zv (.tuple #[.int .i64 (-1),.slice none 0 0,.int .i64 (if s.up=true then 4 else 18)]) w):=by
 obtain⟨dp,pp,h3,wz⟩:=h.ex;obtain⟨c0,c1,c2,c3,c4,c5,c6,c7,c8⟩:=h3.aj;have dR:∀ (x:Bool) (w:World),(Op.unary .not (.bool x)).run prog w = .ok (.bool (!x)) w:=λ _ _=>rfl
 obtain⟨j6,HS,rU⟩:=ZH3 hb hs gr;clear h3 wz h hb hs gr;obtain⟨up,d,sh,told⟩:=s;rcases up with _ | _
 ·go_enter func50,ntmps50;go_wp2_with fail;go_ret3
  exact⟨rfl,ZW _ _⟩
 ·go_enter func50,ntmps50;go_wp2_with fail;refine(ZjY j6.out HS.out hn rU.out).mono ?_;rintro _ w2 ⟨rfl,bW⟩;have HZ:=ZH (ZBn w2 158 (Za ZcA (.slice none 0 0)));have bZ:=((bW.alloc bW.size (.cells (Za ZcA (.slice none 0 0)) 158)));have hk:Kept w.heap.size w (w2.alloc (.cells (Za ZcA (.slice none 0 0)) 158)):=⟨bZ,bZ.size⟩;have HK:=ZH (hk.row bW.size (Za ZcA (.slice none 0 0)));clear bZ hk bW c0 c1 c2 c3 c4 c5 c6 c7 c8
  go_wp2_with (first
   |(refine Zy rfl 158 rfl (Za ZcA (.slice none 0 0)) ZK ?_)
   |(refine wpList_store_row rfl 158 (.tmp 7) (.tmp 18) rfl w2.heap.size (Za ZcA (.slice none 0 0)) rfl rfl 158 (Za ZcA (.slice none 0 0)) HZ.out (Zap _ _) rfl (Zbc _ _ _ _) ?_))
  go_ret3
  exact⟨rfl,HK.out.below⟩
end Go.Proofs.YtjkfognelhiepaaGreat
