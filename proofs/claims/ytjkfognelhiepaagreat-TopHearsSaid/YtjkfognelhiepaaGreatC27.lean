import Derived.Test.YtjkfognelhiepaaGreatC26
import Derived.Deep.LoopGhost
namespace Go.Proofs.YtjkfognelhiepaaGreat
open Go.RowKit _root_.Go.Proofs.Tryz
set_option maxRecDepth 100000
set_option maxHeartbeats 8000000
section
open Go.RowKit Go.Shelf
def Zg5(d:Nat):Deferred:={ target := .collected d,args:=#[] }
section
variable {F:Fence}{n:Nat}{P:Program}
theorem Zmy{g:Operand}{ps:Array Tmp}{assign body:Code}{Q:Exit->Act->World->Prop}{a:Act}{w:World}(SY:F.round=none)(h1:1<=n){gf:Nat}{lb:Array Value}(hg:a.eval g = .func (.func gf) #[] lb)(Sm:F.fn gf)(eg:∀ args w,(callFunc gf args).run P w = .ok (.enter gf args) w)
  (h:∀ (R:Loop) (W1:World),F.fn R.fn->R.state = .ready->R.pending=none->R.tmps=a.tmps->R.params=ps->R.assign=assign->R.body=body->W1=(w.alloc (.deferred (some []))).alloc (.loop R) ->
   CallsIn F (n-1) P gf (#[.func (.yield (w.heap.size+1)) #[] #[]]++lb) W1 (rangePost F n P (w.heap.size+1) Q { a with defers:=Zg5 w.heap.size::a.defers })) :
  (Code.rangeFunc g ps assign body).wpIn F n P Q a w:=by
 refine wpIn_rangeFunc ?_;intro fn qu;rw[SY];obtain⟨R,hR⟩:∃ R:Loop,R={ state := .ready,pending:=none,fn,tmps:=a.tmps,params:=ps,assign,body,defers:=w.heap.size }:=⟨_,rfl⟩;obtain⟨W1,yd⟩:∃ W1,W1=(w.alloc (.deferred (some []))).alloc (.loop R):=⟨_,rfl⟩
 refine⟨w.heap.size+1,[Zg5 w.heap.size],W1,{ target := .fn (.func gf) lb,args:=#[.func (.yield (w.heap.size+1)) #[] #[]] },W1,gf,
  #[.func (.yield (w.heap.size+1)) #[] #[]]++lb,W1,?_,?_,?_,?_,λ _=>h1,?_⟩
 ·rw[yd,hR];exact run_enterLoop_outer _ _ _ _ _
 ·simp only[resolve,hg];simp[go_sem]
 ·intro f' OX;simp[Target.leads] at OX;subst OX;exact Sm
 ·simp[invoke,go_sem,eg]
 ·exact h R W1 (by rw[hR];exact qu) (by rw[hR]) (by rw[hR]) (by rw[hR]) (by rw[hR]) (by rw[hR]) (by rw[hR]) yd
theorem ZmJ{l m:Nat}{R:Loop}{W:World}{args:Array Value}{sY:Ending->World->Prop}(hl:W.heap[l]? = some (.loop R))(hs:args.size=R.params.size)(hF:F.fn R.fn)
  (h:∀ K:Act->World->Prop,(∀ a₁ w₁,(∃ R1:Loop,w₁.heap[l]? = some (.loop R1)/\R1.state = .ready/\R.body.wpIn (F.inRound l) m P (roundPost P l sY) a₁ (w₁.putObj l (.loop { R1 with state := .busy })))->K a₁ w₁)->R.assign.wpIn (F.inRound l) m P (Exit.then K (λ _ _ _=>False))
   { tmps:=(R.params.zip args).foldl (λ tmps (t,a)=>tmps.setIfInBounds t a) R.tmps,defers:=[] } W):YieldAt F m P l args W sY:=by
 refine⟨R.fn,_,R.assign,R.body,run_yield hl hs,roundIn_of_wpIn hF ?_⟩;refine wpIn_mono (h _ λ _ _ h=>h) ?_;intro e a w hq
 cases e with
 | normal =>
  obtain⟨R1,h1,h2,h3⟩:=hq;exact⟨_,run_beginRound h1 h2,h3⟩
 | ret=>exact hq
 | exit id=>exact hq
 | goto t=>exact hq
 | panic ch=>exact hq
 | outgrown=>exact hq
end
theorem Zhe{P:Program}{w:World}{l:Nat}{R:Loop}(hs:R.state = .ready)(hp:R.pending=none)(hl:w.heap[l]? = some (.loop { R with state := .busy })):(Instr.endRound l none).run P w = .ok (.bool true) (w.putObj l (.loop R)):=by
 rw[run_endRound none hl]
 cases R
 simp only at hs hp;subst hs hp;rfl
theorem Zd1{t:Nat}(ht:0<t){own:Own}{g:Nat}(h:own g=0):¬ RoundT t (own g):=by
 rw[h];rintro(⟨h1,_⟩ | h1) <;> omega
theorem Bytes.putObj{w:World}{l:Nat}{R:Loop}(hl:w.heap[l]? = some (.loop R)){a:Option Addr}{n cap:Nat}{bs:List Nat}(h:Bytes w a n cap bs)(o:Obj):Bytes (w.putObj l o) a n cap bs:=by
 obtain⟨h1,h2,h3⟩:=h;refine⟨h1,h2,?_⟩;rcases h3 with h3 | ⟨b,off,rfl,h4,h5,h6⟩
 ·exact .inl h3
 ·refine .inr ⟨b,off,rfl,by rw[World.putObj_size];exact h4,h5,λ i hi=>?_⟩;have hc:=h6 i hi;have dz:b≠l:=λ e=>by
   subst e;simp[World.cell?,hl] at hc
  rw[←hc];simp only[World.cell?,World.putObj_heap_other dz]
section
variable {own own':Own}{t p m b l:Nat}{w w':World}{c:Cfg}{x y:WS}{Z:Where}{R:Loop}{T:Nat->Prop}
theorem RoundAt.to(h:RoundAt own t w p c m b l R Z x)(hu:Upd T own own' w w')(hT:¬ T (t+6001))(hz:WorldIn own' t w' p c y Z)(hi:∃ B,WInv c B m b y):RoundAt own' t w' p c m b l R Z y:=by
 have hl:l<w.heap.size:=(Array.getElem?_eq_some_iff.1 h.loop).1;exact⟨hz,hu.fresh,hi,(hu.same l hl (by rw[h.own];exact hT)).trans h.loop,(hu.old l hl).trans h.own⟩
def Zia(t n:Nat):Prop:=t<=n/\n<t+10000
theorem RoundT.run{t n:Nat}(h:RoundT t n):Zia t n:=by
 rcases h with ⟨h1,h2⟩ | h1
 ·exact⟨h1,ZO⟩
 ·exact⟨ZO,ZO⟩
def ZgK(own:Own)(t:Nat)(w0:World)(bw p:Nat)(c:Cfg)(m b:Nat)(Z:Where)(D:List Nat)(o:Own)(y:WS)(w:World):Prop :=
 WorldIn o t w p c y Z/\(∃ B,WInv c B m b y)/\Upd (Zia t) own o w0 w/\Blk w bw 27 #[ptrV p]/\o bw=0/\(∀ d∈D,w.heap[d]? = some (.deferred (some []))/\o d=t+6000/\w0.heap.size<=d)/\D.Nodup
theorem ZhV{F:Fence}{n:Nat}{P:Program}{fn:Func}{tmps:Array Value}{sY:Ending->World->Prop}(qu:fn.results=#[]):∀ (D:List Nat) (w:World),(∀ d∈D,w.heap[d]? = some (.deferred (some [])))->D.Nodup ->
  sY (.returned (.tuple #[])) (D.foldl (λ w d=>w.putObj d (.deferred none)) w)->LeavesInM F n P fn tmps sY (D.map Zg5) .returning w
 | [],w,_,_,h=>⟨_,results_none qu _ _ _,h⟩
 | d::D,w,hd,hn,h=>by
  obtain⟨h1,h2⟩:=List.nodup_cons.1 hn;refine⟨ZM,.inl ⟨d,w.putObj d (.deferred none),rfl,run_takeDeferred (hd d ZM),?_⟩⟩;refine ZhV qu D _ (λ d' wv=>?_) h2 h;have dz:d'≠d:=λ e=>h1 (e▸wv)
  rw[World.putObj_heap_other dz];exact hd d' (List.mem_cons_of_mem _ wv)
theorem Zkr{o:Own}{t:Nat}:∀ (D:List Nat) (w:World),Fresh o w->(∀ d∈D,o d=t+6000)->Upd (· = t+6000) o o w (D.foldl (λ w d=>w.putObj d (.deferred none)) w)
 | [],w,hf,_=>Upd.refl _ o w hf
 | d::D,w,hf,hd=>by
  have h1:Upd (· = t+6000) o o w (w.putObj d (.deferred none)):=(Upd.refl _ o w hf).putObj (λ _=>hd d ZM) _;exact h1.trans (Zkr D _ h1.fresh λ d' wv=>hd d' (List.mem_cons_of_mem _ wv))
theorem Zhf{w0:World}{bw:Nat}{D:List Nat}{o:Own}{n:Nat}{tmps:Array Value}(ht:0<t)(hc:c.n<=5)(h:ZgK own t w0 bw p c m b Z D o y w):
  LeavesInM Fence.wide n prog f20 tmps (λ e w'=>e = .returned (.tuple #[])/\∃ own',WorldAt own' t w' p c y/\Upd (Zia t) own own' w0 w') (D.map Zg5) .returning w:=by
 obtain⟨h1,h2,h3,h4,h5,h6,h7⟩:=h;have hu:=Zkr (t:=t) D w h3.fresh λ d hd=>(h6 d hd).2.1
 refine ZhV rfl D w (λ d hd=>(h6 d hd).1) h7 ⟨rfl,o,(h1.upd hu (λ n hn=>by obtain⟨_,_⟩:=hn;omega) ZO hc).at_,h3.trans (hu.mono λ n hn=>⟨ZO,ZO⟩)⟩
end
theorem Zoa(p:Nat)(w:World):Calls prog 49 #[ptrV p] w λ e w'=>e = .returned (.func (.func 91) #[] #[.pointer (some ⟨w.heap.size,0,none⟩)])/\Blk w' w.heap.size 27 #[ptrV p]/\Below w.heap.size w w':=by
 go_enter func49,ntmps49;go_wp2
 go_ret;exact⟨rfl,ZBn _ _ _,(ZW _ _).alloc (ZL _) _⟩
theorem ZmD(S S':StandN)(h1:S.acks.length=5)(h2:S.nodes.length=5)(DZ:S'.acks.length=5)(KK:S'.nodes.length=5)(w:World):(binOp .eql 101 (ZbF S) (ZbF S')).run prog w = .ok (.bool (decide (S=S'))) w:=by
 unfold ZbF;rw[run_eql_struct,Zq8 h1 h2 DZ KK];rfl
end
section
open Go.RowKit Go.Shelf
attribute [local go_sem] Oper.semAt_some
def Zem(x:WS)(k:Nat):WS:=⟨λ r=>if r<k then(ZbS r (Zdf (x.nodes r))).1 else x.nodes r,x.hub,x.link⟩
theorem Zng(x:WS):Zem x 0=x:=by
 unfold Zem;simp
theorem Znf(x:WS)(k:Nat):(⟨Zch (Zch (Zem x k).nodes k (Zdf (x.nodes k))) k (ZbS k (Zdf (x.nodes k))).1,x.hub,x.link⟩:WS)=Zem x (k+1):=by
 unfold Zem;congr 1;funext r;by_cases e:r=k
 ·subst e;rw[Zdj];simp
 ·rw[Zcp e,Zcp e];show(if r<k then(ZbS r (Zdf (x.nodes r))).1 else x.nodes r)=_
  by_cases h:r<k
  ·rw[if_pos h,if_pos ZO]
  ·rw[if_neg h,if_neg ZO]
theorem ZmE(S:StandN)(h2:S.nodes.length=5):∃ f,S=⟨S.up,S.base,S.len,S.acks,Zaq f 5⟩:=by
 obtain⟨a,b,d,e,g,hq⟩:=ZeN h2;refine⟨λ r=>[a,b,d,e,g].getD r quad0,?_⟩;obtain⟨u,bs,ln,ac,q⟩:=S;simp only at hq;subst hq;rfl
theorem Zhk{S:StandN}(h1:S.acks.length=5)(h2:S.nodes.length=5):(Zl S).size=76:=by
 obtain⟨f,hf⟩:=ZmE S h2;rw[hf];exact Zcr _ _ _ h1 _ _
theorem Zkn{S:StandN}(h1:S.acks.length=5)(h2:S.nodes.length=5):(prog.info? 101).map (λ i=>i.size)=some (Zl S).size:=by
 rw[Zhk h1 h2];exact Zgq
theorem ZpI(S:StandN):(Zl S).all (·.oneCell')=true:=by
 rw[Array.all_eq_true_iff_forall_mem];intro v hv;unfold Zl at hv;rw[Array.mem_append] at hv;rcases hv with hv | hv
 ·exact Array.all_eq_true_iff_forall_mem.1 (Zdq S.up S.base S.len S.acks) v hv
 ·rw[List.mem_toArray,List.mem_flatMap] at hv;obtain⟨q,_,hv⟩:=hv;simp[nodeC] at hv;rcases hv with rfl | rfl | rfl | rfl | rfl | rfl | rfl | rfl <;> rfl
theorem ZiK{S:StandN}{w:World}{op:Oper}{a:Act}{y:Operand}(ho:op.op = .load 101 y){g:Nat}(hx:a.eval y = .pointer (some ⟨g,0,none⟩))(h:Blk w g 101 (Zl S))(h1:S.acks.length=5)(h2:S.nodes.length=5):(execOp a.eval op).run prog w = .ok (.value (ZbF S)) w:=by
 unfold execOp;simp only[ho,hx,Instr.loadAt,Instr.sureAddr,Sem.run_bind,Sem.run_pure,Result.andThen_ok,run_loadVar_row w _ _ _ _ _ _ h Zjc rfl (Zkn h1 h2)];rfl
theorem Zqf:prog.eqGuardType prog.depth 101=false:=ZK
theorem Zmk(S1 S:StandN)(y z:Operand)(w:World):(eqGuard .eql 101 y z (ZbF S1) (ZbF S)).run prog w = .ok () w:=run_eqGuard_agg _ _ _ _ _ _ _ Zqf
theorem Zqc{S1 S:StandN}{bq:Bool}{w:World}{op:Oper}{a:Act}{y z:Operand}(ho:op.op = .binOp .eql 101 y z 101)(hy:a.eval y=ZbF S1)(hz:a.eval z=ZbF S)(h:∀ w,(binOp .eql 101 (ZbF S1) (ZbF S)).run prog w = .ok (.bool bq) w):(execOp a.eval op).run prog w = .ok (.value (.bool bq)) w:=by
 unfold execOp;simp only[ho,hy,hz,Sem.run_bind,h,Result.andThen_ok,Sem.run_pure,Zmk]
section
variable {own:Own}{t p m b:Nat}{w:World}{c:Cfg}{B:Bd}{x:WS}
theorem ZlZ(ht:0<t)(h:WorldAt own t w p c x)(hf:Fresh own w)(hi:WInv c B m b x)(hc:c.Ok)(hm:m<=100)(hb:b<=700)(N:Nat)(hN:N<=1000000):
  Calls prog 20 #[ptrV p,.int .i64 N] w (λ e w'=>e = .returned (.tuple #[])/\∃ own',WorldAt own' t w' p c (ZfO c N x)/\Upd (Zia t) own own' w w'):=by
 have h5:=hc.n5;have eo:tot B.made<=100:=ZT hi.sum hm;obtain⟨Z,hz⟩:=h.bQ;have cD:=(ZW w.heap.size w).alloc (ZL _) (.cells #[ptrV p] 27);have HU:Hid (Upd (Zp t) own own w _):=ZH (ZUb cD hf);have cM:=hz.upd (ZUb (T:=λ _=>False) cD hf) (λ _ _ h=>h) (λ h=>h) h5;have jX:=ZBn w 27 #[ptrV p];obtain⟨g,xl,eB,gB,lB⟩:=cM.cells hc.n1;have fk:=cM.blk;rw[xl] at fk;obtain⟨c0,c1,c2⟩:=fk.three;have jY:=jX.cell 0;simp only[ZD,ZE] at jY;obtain⟨HI,HZ,HX,HF⟩:=ZH4 hi cM jX hf;have sX:Hid (own w.heap.size=0):=ZH (hf _ (ZL _));have fy:=jX.lt;clear h hf hi hz cD cM jX fk lB;refine(callsIn_wide (n:=10)).1 ?_;refine callsIn_of_wp_marks func20 rfl trivial ?_ rfl;refine wpIn_wide.2 ?_;simp only[ntmps20,List.size_toArray,List.length_cons,List.length_nil,Nat.reduceAdd,Nat.reduceSub,Array.replicate_succ,Array.replicate_zero,List.push_toArray,List.append_toArray,List.nil_append,List.cons_append];go_wp2_with fail;generalize w.alloc (.cells #[ptrV p] 27)=W at *;have Ih:Hid (WorldIn own t W p c (Zem x 0) Z):=by rw[Zng];exact HZ
 have hxl2:w.heap.size<W.heap.size:=fy;go_loopw [21] (λ i wr=>∃ (k:Nat) (o:Own),k<=c.n/\i = .int .i64 k/\Hid (WorldIn o t wr p c (Zem x k) Z)/\Hid (Upd (Zp t) own o w wr)/\Hid (Blk wr w.heap.size 27 #[ptrV p])/\Hid (o w.heap.size=0)) (λ i _=>c.n-(intOf i).toNat)
 case atStart=>exact⟨0,own,ZO,rfl,Ih,HU,HX,sX⟩
 case round =>
  clear Ih HU HX sX HZ c0 c1 c2 jY eB gB;obtain⟨k,o,jB,rfl,HZ,HU,HX,sX⟩:=hrel;by_cases il:k<c.n
  ·have jC:(k:Int)<(c.n:Int):=ZO;have cA:(0:Int)<=(k:Int):=ZO;obtain⟨g',kR,EX,EY,gg⟩:=HZ.out.cells hc.n1;have EW:g'=g:=by rw[xl] at kR;simpa using kR.symm
   subst EW;have hq:=ZX (l:=Z.ps) (i:=k) (by have:=HZ.out.len;omega);obtain⟨q,tX⟩:∃ q,q=Z.ps[k]'(by have:=HZ.out.len;omega):=⟨_,rfl⟩;rw[←tX] at hq;have ib:=gg k q hq;have HQ:=ZH hq;have Pn:(Zem x k).nodes k=x.nodes k:=by
    show(if k<k then _ else _)=_
    rw[if_neg ZO]
   have hN:=HZ.out.node k q hq;rw[Pn] at hN;have HN:=ZH (ZiT hN HU.out.fresh);clear gg kR tX hq Pn hN;go_wp2_with fail;refine HN.out.mono ?_;rintro _ w2 ⟨rfl,fe,cm⟩;have cK:=HZ.out.setNode h5 HQ.out (y:=Zdf (x.nodes k)) cm fe;have pB:=ZH cK;have Gb:=cm.mono (T':=Zp t) λ n hn=>hn.world ZO
   obtain⟨dc,pz,pA,us⟩:=ZH4 (HU.out.trans Gb) (HX.out.upd cm (by rw[sX.out];rintro⟨h1,h2⟩;omega)) ((cm.old _ HX.out.lt).trans sX.out) (ZhW ZO fe cm.fresh ((HI.out.nodes k il).aF) ZO eo hb);clear cK Gb fe cm ib HN;go_wp2_with fail;refine us.out.mono ?_;rintro _ w3 ⟨rfl,ey,jj,cO⟩;have pd:=pB.out.setNode h5 HQ.out cO jj;have ui:WorldIn ey t w3 p c (Zem x (k+1)) Z:=by
    rw[←Znf];exact pd
   obtain⟨rY,dI,ia,vI⟩:=ZH4 ui (dc.out.trans (cO.mono (T':=Zp t) λ n hn=>hn.world ZO)) (pz.out.upd cO (by rw[pA.out];rintro⟨h1,h2⟩;omega)) ((cO.old _ pz.out.lt).trans pA.out);clear pd ui jj cO us pB dc pz pA;go_wp2
   go_roundw
   case rel=>exact⟨k+1,ey,ZO,ZN,rY,dI,ia,vI⟩
   case measure=>simp[intOf];omega
  ·obtain rfl:k=c.n:=ZO;have eK:(Zem x c.n).nodes=(ZdV c x).nodes:=rfl;obtain⟨HH,hH,o6,_⟩:=HI.out.hub;have HC:=ZH (ZjZ HZ.out.hub HU.out.fresh);obtain⟨c0,c1,c2⟩:=HZ.out.blk.three;have jY:=HX.out.cell 0;simp only[ZD,ZE] at jY;have BF:=HX.out.lt;have Q1:=ZH o6;clear o6;go_wp2_with fail;refine HC.out.mono ?_;rintro _ w2 ⟨rfl,rz,cm⟩;have cK:=HZ.out.aA h5 (y:=Zde x.hub) cm rz;have nE:=HX.out.upd cm (by rw[sX.out];rintro⟨h1,h2⟩;omega);obtain⟨pA,dc,HS,pB,pz⟩:=ZH5 ((cm.old _ HX.out.lt).trans sX.out) (HU.out.trans (cm.mono (T':=Zp t) λ n hn=>hn.world)) (ZiO ZO (x:=Zde x.hub) rz cm.fresh Q1.out.aF hc) cK nE;clear c0 c1 c2 jY BF;obtain⟨c0,c1,c2⟩:=cK.blk.three;have jY:=nE.cell 0;simp only[ZD,ZE] at jY;have BF:=nE.lt;clear cK nE rz cm HC HZ HU HX sX;go_wp2_with fail;refine HS.out.mono ?_;rintro _ w3 ⟨rfl,ey,E0,cO⟩;have pd:=pB.out.aA h5 (y:=(ZbZ c (Zde x.hub)).1) cO E0;obtain⟨ia,vI,dI⟩:=ZH3 (pz.out.upd cO (by rw[pA.out];rintro⟨h1,h2⟩;omega)) ((cO.old _ pz.out.lt).trans pA.out) (dc.out.trans (cO.mono (T':=Zp t) λ n hn=>hn.world));have rY:Hid (WorldIn ey t w3 p c (ZdV c x) Z):=ZH pd;have Nr:Hid (∃ B',WInv c B' m b (ZdV c x)):=ZH (by obtain⟨B',_,_,h⟩:=HI.out.bI hc hm hb;exact⟨B',h⟩);clear pd E0 cO HS pB dc pz pA c0 c1 c2 jY BF;go_wp2_with fail;refine wp_loop_ghost_k (λ n a wr=>∃ (u3 u4 u5 u6 u7 u8 u9 GC GD GE GF GG GH GI GJ GK GL GM GN GO GP GQ GR GS PR PT PU PV PW u32 PX PY PZ P0 P1 P2 P3 P4 P5 P6 P7 P8 P9 Qa Qb Qc Qd Qe Qf Qg Qh Qi Qj Qk Ql Qm Qn Qo Qp u64 Qq Qr Qs Qt Qu Qv Qw Qx Qy Qz QA QB QC QD:Value) (D:List Nat) (k:Nat) (o:Own) (y:WS),a=({ tmps:=#[ptrV p,.int .i64 N,.pointer (some ⟨w.heap.size,0,none⟩),u3,u4,u5,u6,u7,u8,u9,GC,GD,GE,GF,GG,GH,GI,GJ,GK,GL,GM,GN,GO,GP,GQ,GR,GS,PR,PT,PU,PV,PW,u32,PX,PY,PZ,P0,P1,P2,P3,.int .i64 N,.int .i64 k,P4,P5,P6,P7,P8,P9,Qa,Qb,Qc,Qd,Qe,Qf,Qg,Qh,Qi,Qj,Qk,Ql,Qm,Qn,Qo,Qp,u64,Qq,Qr,Qs,Qt,Qu,Qv,Qw,Qx,Qy,Qz,QA,QB,QC,QD],defers:=D.map Zg5 }:Act)/\k+n=N/\goW c N (ZdV c x)=goW c n y/\ZgK own t w w.heap.size p c m b Z D o y wr) N ⟨_,_,_,_,_,_,_,_,_,_,_,_,_,_,_,_,_,_,_,_,_,_,_,_,_,_,_,_,_,_,_,_,_,_,_,_,_,_,_,_,_,_,_,_,_,_,_,_,_,_,_,_,_,_,_,_,_,_,_,_,_,_,_,_,_,_,_,_,_,_,_,_,_,_,[],0,ey,ZdV c x,rfl,ZO,rfl,rY.out,Nr.out,dI.out.mono (λ n h=>⟨h.1,by have:=h.2;omega⟩),ia.out,vI.out,λ d hd=>by simp at hd,List.nodup_nil⟩ ?_;clear rY Nr dI ia vI;intro n a w5 hI J K hJ hK;obtain⟨u3,u4,u5,u6,u7,u8,u9,GC,GD,GE,GF,GG,GH,GI,GJ,GK,GL,GM,GN,GO,GP,GQ,GR,GS,PR,PT,PU,PV,PW,u32,PX,PY,PZ,P0,P1,P2,P3,P4,P5,P6,P7,P8,P9,Qa,Qb,Qc,Qd,Qe,Qf,Qg,Qh,Qi,Qj,Qk,Ql,Qm,Qn,Qo,Qp,u64,Qq,Qr,Qs,Qt,Qu,Qv,Qw,Qx,Qy,Qz,QA,QB,QC,QD,D,k,o,y,rfl,il,gB,hz,hi,hu,hx,Gn,lN,Fu⟩:=hI;obtain⟨B5,hi⟩:=hi;obtain⟨c0,c1,c2⟩:=hz.blk.three;have jY:=hx.cell 0;simp only[ZD,ZE] at jY;have fy:=hx.lt;obtain⟨HZ,xz,HU,HX,sX,xE,NF,rT⟩:=ZH8 hz hi hu hx Gn lN Fu gB;clear hz hi hu hx Gn lN Fu gB
   cases n with
   | zero =>
    obtain rfl:k=N:=ZO;go_wp2_with fail;have e:ZfO c k x=y:=rT.out;rw[e];exact Zhf ht h5 ⟨HZ.out,⟨B5,xz.out⟩,HU.out,HX.out,sX.out,xE.out,NF.out⟩
   | succ n =>
    have jC:(k:Int)<(N:Int):=ZO;have cA:(0:Int)<=(k:Int):=ZO;have fq:=ZH (ZfT HZ.out.at_ HU.out.fresh xz.out hc hm);go_wp2_with fail;refine fq.out.mono ?_;rintro _ w6 ⟨rfl,eu⟩;have Cm:=HZ.out.upd (ZUb (T:=λ _=>False) eu HU.out.fresh) (λ _ _ h=>h) (λ h=>h) h5;obtain⟨gY,nK⟩:=ZH2 (HU.out.kept eu) (HX.out.ob eu);have C6:Hid (∀ d∈D,w6.heap[d]? = some (.deferred (some []))/\o d=t+6000/\w.heap.size<=d):=ZH λ d hd=>by
     obtain⟨h1,h2,h3⟩:=xE.out d hd;exact⟨(eu.block d (Array.getElem?_eq_some_iff.1 h1).1).trans h1,h2,h3⟩
    have BT:=ZH Cm;have nz:=xz.out.aK hc;have lS:(ZaI c y).nodes.length=5:=by simp[ZaI]
    obtain⟨S,hS⟩:∃ S,S=ZaI c y:=⟨_,rfl⟩;rw[←hS] at nz lS ⊢;obtain⟨HS,dV,eP⟩:=ZH3 hS nz lS;clear Cm eu hS nz lS HZ HU HX xE fq c0 c1 c2 jY fy;have jY:=nK.out.cell 0;simp only[ZD,ZE] at jY;have fy:=nK.out.lt
    go_wp2_with (first
     |(refine Zy rfl 101 rfl (Zl ZaZ) ZK ?_)
     |(refine wpList_store_row rfl 101 (.tmp 6) (.tmp 44) rfl w6.heap.size (Zl S) rfl rfl 101 (Zl ZaZ) (ZBn w6 101 _) (Zkn dV.out eP.out) ((Zhk rfl rfl).trans (Zhk dV.out eP.out).symm) (ZpI S) ?_
       have za:Blk ((w6.alloc (.cells (Zl ZaZ) 101)).setRow w6.heap.size (Zl S)) w6.heap.size 101 (Zl S):=(ZBn _ _ _).row _;have sc:Kept w6.heap.size w6 ((w6.alloc (.cells (Zl ZaZ) 101)).setRow w6.heap.size (Zl S)):=((ZKr w6).alloc _).row (ZL _) _;obtain⟨W7,iK⟩:∃ W7,W7=(w6.alloc (.cells (Zl ZaZ) 101)).setRow w6.heap.size (Zl S):=⟨_,rfl⟩;rw[←iK] at za sc ⊢;obtain⟨NM,fd⟩:=ZH2 za sc;have Gm:=(nK.out.ob sc.below).cell 0;simp only[ZD,ZE] at Gm
       clear iK za sc))
    refine(Zoa p W7).mono ?_;rintro _ w8 ⟨rfl,r9,fS⟩;have lG:=fd.out.step fS;obtain⟨NT,jo,Ie,vz⟩:=ZH4 (BT.out.upd (ZUb (T:=λ _=>False) lG.below gY.out.fresh) (λ _ _ h=>h) (λ h=>h) h5) (gY.out.kept lG.below) (nK.out.ob lG.below) (NM.out.ob fS);have zG:Hid (∀ d∈D,w8.heap[d]? = some (.deferred (some []))/\o d=t+6000/\w.heap.size<=d):=ZH λ d hd=>by
     obtain⟨h1,h2,h3⟩:=C6.out d hd;exact⟨(lG.below.block d (Array.getElem?_eq_some_iff.1 h1).1).trans h1,h2,h3⟩
    have zn:=ZH r9;have Hz:Hid (o w6.heap.size=0):=ZH (gY.out.fresh _ (ZL _));have Cx:Hid (o W7.heap.size=0):=ZH (gY.out.fresh _ fd.out.le);obtain⟨bs,jr⟩:∃ bs,bs=w6.heap.size:=⟨_,rfl⟩;obtain⟨bb,EF⟩:∃ bb,bb=W7.heap.size:=⟨_,rfl⟩;rw[←jr] at vz Hz ⊢;rw[←EF] at zn Cx ⊢;clear lG fS r9 BT gY nK C6 NM fd jr EF jY fy Gm;have hxl8:=Ie.out.lt;go_wp2_with fail;refine(wpIn_wide (n:=10)).1 ?_;refine Zmy rfl ZO (gf:=91) (lb:=#[.pointer (some ⟨bb,0,none⟩)]) rfl trivial (enters_of func91 ZK rfl) ?_;intro R W1 _ OG Ep Ss OF Sq Sr yd;obtain⟨ga,vv⟩:=ZH2 OG Ep;clear OG Ep;have On:W1.heap[w8.heap.size]? = some (.deferred (some [])):=by
     rw[yd];exact(Below.heap_alloc _ _ _ ZM).trans (World.alloc_heap_new w8 _)
    have Os:W1.heap[w8.heap.size+1]? = some (.loop R):=by
     rw[yd];have:=World.alloc_heap_new (w8.alloc (.deferred (some []))) (.loop R);rwa [World.size_alloc] at this
    have lx:Below w8.heap.size w8 W1:=by
     rw[yd];exact((ZW _ w8).alloc (ZL _) _).alloc ZM _
    have dL:W1.heap.size=w8.heap.size+2:=by rw[yd];simp
    have xg:Upd (λ _=>False) o o w8 W1:=ZUb lx jo.out.fresh;have qH:=(xg.am (ZL w8.heap.size) (by omega:w8.heap.size<W1.heap.size) (t+6000)).am (by omega:w8.heap.size<=w8.heap.size+1) ZO (t+6001);obtain⟨o1,rG⟩:∃ o1,o1=(o.at_ w8.heap.size (t+6000)).at_ (w8.heap.size+1) (t+6001):=⟨_,rfl⟩;rw[←rG] at qH;have Pq:o1 w8.heap.size=t+6000:=by rw[rG];simp[Own.at_]
    have Pr:o1 (w8.heap.size+1)=t+6001:=by rw[rG];simp[Own.at_]
    have gb:RoundAt o1 t W1 p c m b (w8.heap.size+1) R Z y:=⟨NT.out.upd qH (λ _ _ h=>h) (λ h=>h) h5,qH.fresh,⟨B5,xz.out⟩,Os,Pr⟩;have lm:=Ie.out.upd qH (λ h=>h);have BZ:=vz.out.upd qH (λ h=>h);have cW:=zn.out.upd qH (λ h=>h);have ON:o1 w.heap.size=0:=(qH.old _ Ie.out.lt).trans sX.out;have OJ:o1 bs=0:=(qH.old _ vz.out.lt).trans Hz.out;have lN:∀ d∈w8.heap.size::D,W1.heap[d]? = some (.deferred (some []))/\o1 d=t+6000/\w.heap.size<=d:=λ d hd=>by
     rcases List.mem_cons.1 hd with rfl | hd
     ·exact⟨On,Pq,jo.out.size⟩
     ·obtain⟨h1,h2,h3⟩:=zG.out d hd;have jJ:=(Array.getElem?_eq_some_iff.1 h1).1;exact⟨(lx.block d jJ).trans h1,(qH.old d jJ).trans h2,h3⟩
    have Fu:(w8.heap.size::D).Nodup:=List.nodup_cons.2 ⟨λ hd=>by
     have:=(Array.getElem?_eq_some_iff.1 (zG.out _ hd).1).1
     omega,NF.out⟩
    obtain⟨fA,Dv,DH,NP,zF,Dc,da⟩:=ZH7 lm BZ ON OJ lN Fu (jo.out.trans (qH.mono (T':=Zia t) λ n h=>h.elim));obtain⟨l,hl⟩:∃ l,l=w8.heap.size+1:=⟨_,rfl⟩;obtain⟨d8,tA⟩:∃ d8,d8=w8.heap.size:=⟨_,rfl⟩;rw[←hl] at gb ⊢;rw[←tA] at zF Dc ⊢;clear On Os lx dL xg qH rG Pq Pr lm BZ ON OJ lN Fu hl tA yd NT jo Ie vz zG zn;show CallsIn Fence.wide 9 _ 91 #[.func (.yield l) #[] #[],.pointer (some ⟨bb,0,none⟩)] W1 _
    refine(Zn9 ht hc hm hb gb cW ?hy).mono ?_
    case hy =>
     intro cF x1 W2 f a2 n2 dg hr Sn fX co;obtain⟨B1,yr,gA⟩:=Sn;have IN:tot B1.made<=100:=ZT yr.sum hm;refine ZmJ hr.loop (by rw[OF];rfl) trivial ?_;rw[Sq,Sr,Ss,OF];intro K1 eA;have cE:=ZH eA;clear eA;have jO:=fA.out.upd co (Zd1 ht DH.out);have Au:=(co.old _ fA.out.lt).trans DH.out;obtain⟨dC,cm⟩:=hr.aL ht { R with state := .busy } h5;have AB:=fX.putObj hr.loop (.loop { R with state := .busy });have vZ:=jO.upd cm (Zd1 ht Au);have TA:=(cm.old _ jO.lt).trans Au;gi_wp2;refine cE.out _ _ ⟨R,hr.loop,ga.out,?_⟩;obtain⟨W3,m7⟩:∃ W3,W3=W2.putObj l (.loop { R with state := .busy }):=⟨_,rfl⟩;rw[←m7] at dC cm AB vZ ⊢;obtain⟨HH,hH,o6,_⟩:=yr.hub;obtain⟨HT,gE⟩:=ZH2 (Zj2 ZO dC.at_.hub dC.fresh o6 hc IN (gA.more (Bd.aH hH)) AB) (yr.aN hc hm gA);obtain⟨c0,c1,c2⟩:=dC.at_.blk.three;have cQ:=dC.at_.blk.lt;have jY:=vZ.cell 0;simp only[ZD,ZE] at jY;have fy:=vZ.lt;obtain⟨eU,dc,ia,Af⟩:=ZH4 dC cm vZ TA;clear cE yr gA jO Au vZ TA dC cm AB fX o6 m7 hr co gb cW;gi_wp2;refine⟨trivial,?_⟩;refine(CallsIn.inRound _ (callsIn_wide.2 HT.out)).mono ?_;intro r2 w4 hP;obtain⟨y0,y1,y2,rfl⟩:=hP.shape;obtain⟨cg,cO,rz,fm⟩:=hP;obtain⟨B2,k1,k2,k3,k4,k5⟩:=gE.out;have ui:=eU.out.at_.aA h5 (y:=(Zr c x1.hub f).1) cO rz;have ie:RoundAt cg t w4 p c m b l { R with state := .busy } Z ⟨x1.nodes,(Zr c x1.hub f).1,x1.link⟩:=eU.out.to cO (by rintro⟨h1,h2⟩;omega) ui ⟨B2,k3⟩;have xe:Upd (RoundT t) cF cg W3 w4:=cO.mono λ n hn => .inl hn.world
     obtain⟨i9,HXo4,fU,fF,jN,cH,fi⟩:=ZH7 (ia.out.upd xe (Zd1 ht Af.out)) ((xe.old _ ia.out.lt).trans Af.out) ie (dc.out.trans xe) fm k3 k5;clear ui cO xe rz fm k1 k2 k3 k4 k5 c0 c1 c2 jY fy cQ HT gE ia Af;have jY:=i9.out.cell 0;simp only[ZD,ZE] at jY;have fy:=i9.out.lt
     cases ho:(Zax c x1.hub.s f).2.1 with
     | none =>
      have fm:=jN.out;rw[ho] at fm;have e:Ending.returned (.tuple #[y0,y1,y2]) = .returned (.tuple #[.int .i64 (-1),.slice none 0 0,.int .i64 ((Zr c x1.hub f).2.2:Nat)]):=fm;simp only[Ending.returned.injEq,Value.tuple.injEq,Array.mk.injEq,List.cons.injEq,and_true] at e;obtain⟨rfl,rfl,rfl⟩:=e;have lO:(Zr c x1.hub f).2.1=none:=ho;have oO:Zcf c x1 (Zr c x1.hub f)=⟨x1.nodes,(Zr c x1.hub f).1,x1.link⟩:=by unfold Zcf;rw[lO]
      have xN:=ZH oO;obtain⟨kq,IF⟩:∃ kq,kq=(Zr c x1.hub f).2.2:=⟨_,rfl⟩;rw[←IF];clear fm ho lO oO IF;by_cases cA:kq=0
      ·subst cA;have sg:(((0:Nat):Int)==0)=true:=rfl;gi_wp2;refine⟨trivial,?_⟩;refine(CallsIn.inRound _ (callsIn_wide.2 (Za5 fU.out.at_.at_ (r := -1) (.inl ZO)))).mono ?_;rintro _ w5 ⟨rfl,dw⟩;obtain⟨eC,gS⟩:=fU.out.below dw h5;obtain⟨gH,jn⟩:=ZH2 eC (fF.out.trans gS);clear dw eC gS;gi_wp2;exact⟨_,_,Zhe ga.out vv.out gH.out.loop,rfl,cg,by rw[xN.out];exact(gH.out.aL ht R h5).1,jn.out.trans (gH.out.aL ht R h5).2⟩
      ·have sg:((kq:Int)==0)=false:=ZP;gi_wp2;refine⟨trivial,?_⟩;gi_wp2;exact⟨_,_,Zhe ga.out vv.out fU.out.loop,rfl,cg,by rw[xN.out];exact(fU.out.aL ht R h5).1,fF.out.trans (fU.out.aL ht R h5).2⟩
     | some pr =>
      have fm:=jN.out;rw[ho] at fm;obtain⟨v,e,cB,ke⟩:=fm;simp only[Ending.returned.injEq,Value.tuple.injEq,Array.mk.injEq,List.cons.injEq,and_true] at e;obtain⟨rfl,rfl,rfl⟩:=e;obtain⟨av,kv,rfl,EJ⟩:=Bytes.ab cB;have lO:(Zr c x1.hub f).2.1=some pr:=ho;have ut:=ZH ((fi.out pr.1 pr.2 lO).1);have oO:Zcf c x1 (Zr c x1.hub f)=⟨Zch x1.nodes pr.1 (Zbf c pr.1 (x1.nodes pr.1) pr.2).1,(Zr c x1.hub f).1,x1.link⟩:=by unfold Zcf;rw[lO]
      have sg:((0:Int)==0)=true:=rfl;have F7:tot B2.made<=100:=ZT cH.out.sum hm;obtain⟨xN,sq⟩:=ZH2 oO EJ;clear ho lO oO EJ cB ke;gi_wp2;refine⟨trivial,?_⟩;refine(CallsIn.inRound _ (callsIn_wide.2 (ZaG fU.out.at_.at_ ut.out.n))).mono ?_;rintro _ w5 ⟨rfl,dw⟩;obtain⟨eC,gS⟩:=fU.out.below dw h5;obtain⟨gH,jn⟩:=ZH2 eC (fF.out.trans gS);have pG:=i9.out.ob dw;have EH:=sq.out.kept dw (ZL _);obtain⟨g',kR,EX,EY,gg⟩:=eC.at_.cells hc.n1;have EW:g'=g:=by rw[xl] at kR;simpa using kR.symm
      subst EW;have hq:=ZX (l:=Z.ps) (i:=pr.1) (by have:=eC.at_.len;have:=ut.out.n;omega);obtain⟨q,tX⟩:∃ q,q=Z.ps[pr.1]'(by have:=eC.at_.len;have:=ut.out.n;omega):=⟨_,rfl⟩;rw[←tX] at hq;have ib:=gg pr.1 q hq;have wm:=eC.at_.blk;rw[kR] at wm;obtain⟨c0,c1,c2⟩:=wm.three;have cQ:=wm.lt;have wR:(0:Int)<=(pr.1:Int):=ZO;have hpI:(pr.1:Int)<(c.n:Int):=by have:=ut.out.n;omega
      obtain⟨Rl,HQ⟩:=ZH2 (ZiY ZO (eC.at_.node pr.1 q hq) eC.fresh (cH.out.nodes pr.1 ut.out.n) (by have:=ut.out.n;omega) F7 hb ut.out EH) hq;clear dw eC gS EH gg tX wm hq kR jY fy;have jY:=pG.cell 0;simp only[ZD,ZE] at jY;have fy:=pG.lt;clear pG;gi_wp2;refine⟨trivial,?_⟩;refine(CallsIn.inRound _ (callsIn_wide.2 Rl.out)).mono ?_;rintro _ w6 ⟨rfl,ey,IH,gT⟩;have tN:pr.1<5:=by have:=ut.out.n;omega
      have Cm:=gH.out.at_.setNode h5 HQ.out gT IH;have O7:∃ B,WInv c B m b ⟨Zch x1.nodes pr.1 (Zbf c pr.1 (x1.nodes pr.1) pr.2).1,(Zr c x1.hub f).1,x1.link⟩:=by
       obtain⟨e1,e2⟩:=(cH.out.nodes pr.1 ut.out.n).take tN hc.h20 F7 hb ut.out;exact⟨B2,cH.out.setNode e1 e2⟩
      have rM:=gH.out.to gT (by rintro⟨h1,h2⟩;omega) Cm O7;obtain⟨mG,gY⟩:=ZH2 rM (jn.out.trans (gT.mono (T':=RoundT t) λ n hn => .inl (hn.world tN)));clear IH gT Cm O7 rM;gi_wp2;exact⟨_,_,Zhe ga.out vv.out mG.out.loop,rfl,ey,by rw[xN.out];exact(mG.out.aL ht R h5).1,gY.out.trans (mG.out.aL ht R h5).2⟩
    ·rintro e w9 ⟨⟨v,rfl⟩,o9,Mo,dh⟩;obtain⟨Rx,OH⟩:∃ Rx:Loop,Rx={ R with state := .exhausted }:=⟨_,rfl⟩;obtain⟨mA,jV⟩:=Mo.aL ht Rx h5;have ww:=run_endLoop (P:=prog) Mo.loop (by rw[ga.out];simp);rw[←OH,vv.out] at ww;obtain⟨jt,Gh⟩:∃ jt,jt=w9.putObj l (.loop Rx):=⟨_,rfl⟩;rw[←Gh] at ww mA jV;refine⟨none,jt,ww,?_⟩;clear ww OH;have Bx:=dh.trans jV;obtain⟨oa,oc,DI,vx⟩:=ZH4 (da.out.trans (Bx.mono (T':=Zia t) λ n hn=>hn.run)) (fA.out.upd Bx (Zd1 ht DH.out)) ((Bx.old _ fA.out.lt).trans DH.out) (Dv.out.upd Bx (Zd1 ht NP.out));have C5:Hid (∀ d∈d8::D,jt.heap[d]? = some (.deferred (some []))/\o9 d=t+6000/\w.heap.size<=d):=ZH λ d hd=>by
      obtain⟨h1,h2,h3⟩:=zF.out d hd;have jJ:=(Array.getElem?_eq_some_iff.1 h1).1;exact⟨(Bx.same d jJ (by rw[h2];rintro(⟨h1,h2⟩ | h1) <;> omega)).trans h1,(Bx.old d jJ).trans h2,h3⟩
     obtain⟨QE,E1⟩:=mA.inv;obtain⟨Dr,qV⟩:=ZH2 mA E1;have jY:=oc.out.cell 0;simp only[ZD,ZE] at jY;have fy:=oc.out.lt;clear Mo dh mA jV Gh Bx E1 da fA DH Dv NP zF;go_wp2_with fail;have nz:=qV.out.aK hc;have lS:(ZaI c (Zc6 c y)).nodes.length=5:=by simp[ZaI]
     obtain⟨S1,BZ⟩:∃ S1,S1=ZaI c (Zc6 c y):=⟨_,rfl⟩;have iA:=ZH BZ;rw[←BZ] at nz lS;obtain⟨bq,ka⟩:∃ bq,bq=decide (S1=S):=⟨_,rfl⟩;have tC:∀ w,(binOp .eql 101 (ZbF S1) (ZbF S)).run prog w = .ok (.bool bq) w:=λ w=>by rw[ka];exact ZmD S1 S nz lS dV.out eP.out w
     obtain⟨qN,QV⟩:=ZH2 ka tC;clear ka tC nz lS BZ;refine ZSi [(0,0),(2,0),(1,1),(3,3)] λ bR=>?_
     refine Zf (v:=ptrV p) rfl (by rfl) ?_ ?_
     ·intro w' ci;have jY:=(oc.out.ob ci.below).cell 0;simp only[ZD,ZE] at jY;go_simp
     simp only[Act.put,ZA,ZB,ZC];refine Zf (v:=ZbF S) rfl (by rfl) (λ w' ci=>ZiK rfl rfl (vx.out.ob ci.below) dV.out eP.out) ?_;simp only[Act.put,ZA,ZB,ZC];refine Zkk rfl (by rfl) (λ K1 eA=>?_);go_simp;have dh:Upd (λ _=>False) o9 o9 jt jt.drew:=ZUb (ZW jt.heap.size jt).drew oa.out.fresh;refine(ZfT (Dr.out.at_.upd dh (λ _ _ h=>h) (λ h=>h) h5).at_ dh.fresh qV.out hc hm).mono ?_;rintro _ uP ⟨rfl,lu⟩;rw[←iA.out];refine eA.out (λ w'=>Kept jt.heap.size jt w') _ _ (λ _ h=>h) (bR.step lu) (λ bT=>?_);clear eA K1 bR lu dh jY fy;have tC:=QV.out;refine Zi7 (v := .bool bq) rfl (by rfl) (λ w'=>Zqc rfl rfl rfl tC) ?_;simp only[Act.put,ZA,ZB,ZC];refine ZSf ?_;have F8:Upd (λ _=>False) o9 o9 jt uP:=ZUb bT.below oa.out.fresh
     have hrel:ZgK own t w w.heap.size p c m b Z (d8::D) o9 (Zc6 c y) uP:=⟨Dr.out.at_.upd F8 (λ _ _ h=>h) (λ h=>h) h5,⟨QE,qV.out⟩,oa.out.kept bT.below,oc.out.ob bT.below,DI.out,λ d hd=>by
      obtain⟨h1,h2,h3⟩:=C5.out d hd
      exact⟨(bT.below.block d (Array.getElem?_eq_some_iff.1 h1).1).trans h1,h2,h3⟩,Dc.out⟩
     have Ds:=ZH hrel;clear hrel F8 bT tC;have gB:goW c N (ZdV c x)=if S1=S then Zc6 c y else goW c n (Zc6 c y):=by
      rw[rT.out,iA.out,HS.out];rfl
     cases bq with
     | true =>
      have hE:S1=S:=by simpa using qN.out.symm
      rw[if_pos hE] at gB;have HG:=ZH gB;clear gB;go_wp2_with fail;have e:ZfO c N x=Zc6 c y:=HG.out;rw[e];exact Zhf (D:=d8::D) ht h5 Ds.out
     | false =>
      have hE:¬ S1=S:=by simpa using qN.out.symm
      rw[if_neg hE] at gB;have HG:=ZH gB;clear gB;go_wp2_with fail;exact⟨n,ZO,hJ _ _ _ ⟨_,_,_,_,_,_,_,_,_,_,_,_,_,_,_,_,_,_,_,_,_,_,_,_,_,_,_,_,_,_,_,_,_,_,_,_,_,_,_,_,_,_,_,_,_,_,_,_,_,_,_,_,_,_,_,_,_,_,_,_,_,_,_,_,_,_,_,_,_,_,_,_,_,_,d8::D,k+1,o9,Zc6 c y,rfl,ZO,HG.out,Ds.out⟩⟩
end
end
section
theorem Zo6:(prog.info? 83).map (λ i=>(i.zero,i.size,i.bytes))=some (some (.pointer none),1,8):=ZK
structure NewPart(own:Own)(t:Nat)(w:World)(p hp lp:Nat)(c:Cfg)(k:Nat)(v:Value):Prop where
 mine:own p=t
 blk:Blk w p 82 #[v,ptrV hp,ptrV lp]
 ex:∃ ps:List Nat,ps.length=k/\w.ownsRow 0 83 1 v k (ps.map ptrV)/\(∀ g,v.ownBlock=some g->own g=t+1)/\∀ r q,ps[r]? = some q->NodeAt own (t+100+10*r) w q c r NodeSt.new
 hub:HubAt own (t+200) w hp c true Dk.new (initSt c).1 (initSt c).2
 link:LinkAt own (t+300) w lp []
section
variable {own own':Own}{t p hp lp k:Nat}{w w':World}{c:Cfg}{v:Value}{T:Nat->Prop}
theorem NewPart.upd(h:NewPart own t w p hp lp c k v)(hu:Upd T own own' w w')(h1:¬ T t)(h2:¬ T (t+1))(hN:∀ r n,r<k->NodeT (t+100+10*r) n->¬ T n)(hH:∀ n,HubT (t+200) n->¬ T n)(hL:¬ T (t+300))(h0:¬ T 0)(hc:c.n<=5):NewPart own' t w' p hp lp c k v:=by
 obtain⟨g1,g2,⟨ps,g3,g4,g5,g6⟩,g7,g8⟩:=h;refine⟨by rw[hu.old p g2.lt];exact g1,g2.upd hu (by rw[g1];exact h1),⟨ps,g3,Zh g4 (λ g hg hl=>hu.same g hl (by rw[g5 g hg];exact h2)),λ g hg=>by rw[hu.old g (Zb g4 hg).2];exact g5 g hg,λ r q hq=>(g6 r q hq).upd hu (hN r · (by have:=(ZZ.1 hq).1;omega))⟩,HubAt.upd g7 hu hH (by rw[g7.len];exact hc),g8.upd hu hL h0⟩
end
theorem ZpY{own:Own}{t:Nat}{w:World}{c:Cfg}(ht:0<t)(hf:Fresh own w)(hc:c.Ok):
  Calls prog 12 #[ZdX c] w λ e w'=>∃ p own',e = .returned (.tuple #[ptrV p,.int .i64 0])/\WorldAt own' t w' p c (Zfe c)/\Upd (Zp t) own own' w w':=by
 have h5:=hc.n5;have cD:=ZBn w 23 (Zal c);have cA:=(ZW w.heap.size w).alloc (ZL _) (.cells (Zal c) 23);have cX:Upd (λ _=>False) own own w (w.alloc (.cells (Zal c) 23)):=ZUb cA hf;obtain⟨Dd,mc,mW⟩:=ZH3 (ZrT (t:=t+200) ZO cX.fresh hc) cD cX;have NH:Hid (own w.heap.size=0):=ZH (hf _ (ZL _));have md:=ZH hc;obtain⟨d0,d1,d2,d3,d4,d5⟩:=cD.aS;clear hf cA cX cD hc;go_enter func12,ntmps12;go_wp2_with fail;refine Dd.out.mono ?_;rintro _ w1 ⟨hp,cF,rfl,hhp,O3,co⟩;obtain⟨Ju,da,CA⟩:=ZH3 O3 ((mW.out.mono λ n h=>h.elim).trans co) (mc.out.upd co (by rw[NH.out];rintro⟨h1,h2⟩;omega));have nZ:Hid (cF w.heap.size=0):=ZH ((co.old _ mc.out.lt).trans NH.out);have fE:=ZH (Zqu (t:=t+300) co.fresh);clear O3 co d0 d1 d2 d3 d4 d5;go_wp2_with fail;refine fE.out.mono ?_;rintro _ w2 ⟨cg,rfl,mM,cm⟩;have rz:=HubAt.upd Ju.out cm (λ n hn=>by obtain⟨h1,h2⟩:=hn;omega) (by rw[Ju.out.len];exact h5);have nB:Upd (Zp t) own cg w w2:=(da.out.mono λ n h=>h.world).trans (cm.mono λ n h=>⟨ZO,ZO⟩);have Ar:=CA.out.upd cm (by rw[nZ.out];omega);have qE:cg w.heap.size=0:=(cm.old _ CA.out.lt).trans nZ.out;have lx:=(ZW _ w2).alloc (ZL _) (.cells #[.slice none 0 0,ptrV hp,ptrV w1.heap.size] 82);have fg:=ZBn w2 82 #[.slice none 0 0,ptrV hp,ptrV w1.heap.size];have cO:Upd (λ _=>False) cg (cg.at_ w2.heap.size t) w2 (w2.alloc (.cells #[.slice none 0 0,ptrV hp,ptrV w1.heap.size] 82)):=(ZUb lx cm.fresh).am (ZL _) fg.lt t;obtain⟨ey,dB⟩:∃ o,o=cg.at_ w2.heap.size t:=⟨_,rfl⟩;rw[←dB] at cO;have Ox:NewPart ey t _ w2.heap.size hp w1.heap.size c 0 (.slice none 0 0):=⟨by rw[dB];exact if_pos rfl,fg,⟨[],rfl,⟨rfl,.inl ⟨rfl,rfl⟩⟩,λ g h=>by(cases h),λ i q h=>by simp at h⟩,HubAt.upd rz cO (λ _ _ h=>h) (by rw[rz.len];exact h5),mM.upd cO (λ h=>h) (λ h=>h)⟩;obtain⟨De,ul,dI⟩:=ZH3 Ox (Ar.ob lx) (nB.trans (cO.mono (T':=Zp t) λ n h=>h.elim));have gV:Hid (ey w.heap.size=0):=ZH ((cO.old _ Ar.lt).trans qE);have hpwc:w2.heap.size≠w.heap.size:=by have:=Ar.lt;omega
 clear rz mM cm nB Ar qE lx fg cO dB Ox Ju da CA nZ mc mW fE Dd;obtain⟨i0,hi,cM,cG,cK⟩:=info_parts Zo6;obtain⟨d0,d1,d2,d3,d4,d5⟩:=ul.out.aS;have LS:=ul.out.lt;go_wp2_with fail;go_loopw [24] (λ i wr=>∃ (k:Nat) (io:Own) (v:Value),k<=c.n/\i = .int .i64 k/\Hid (Blk wr w.heap.size 23 (Zal c))/\Hid (NewPart io t wr w2.heap.size hp w1.heap.size c k v)/\Hid (io w.heap.size=0)/\Hid (Upd (Zp t) own io w wr)) (λ i _=>c.n-(intOf i).toNat)
 case atStart=>exact⟨0,_,_,ZO,rfl,ul,De,gV,dI⟩
 case round =>
  clear ul De gV dI d0 d1 d2 d3 d4 d5 LS;obtain⟨k,io,v,jB,rfl,HC,De,HO,HU⟩:=hrel;obtain⟨d0,d1,d2,d3,d4,d5⟩:=HC.out.aS;have A7:=HC.out.lt;by_cases il:k<c.n
  ·have jC:(k:Int)<(c.n:Int):=ZO;go_wp2_with fail;refine(ZqC (t:=t+100+10*k) ZO HU.out.fresh md.out il).mono ?_;rintro _ w4 ⟨q,dG,rfl,Mj,qC,dS⟩;have oy:∀ n,NodeT (t+100+10*k) n->n≠t/\n≠t+1/\¬ HubT (t+200) n/\n≠t+300/\n≠0/\∀ r,r<k->¬ NodeT (t+100+10*r) n:=λ n hn=>by
    obtain⟨h1,h2⟩:=hn;exact⟨ZO,ZO,λ h=>by obtain⟨h3,h4⟩:=h;omega,ZO,ZO,λ r hr h=>by obtain⟨h3,h4⟩:=h;omega⟩
   have xZ:=De.out.upd dS (λ h=>(oy _ h).1 rfl) (λ h=>(oy _ h).2.1 rfl) (λ r n hr hn h=>(oy _ h).2.2.2.2.2 r hr hn) (λ n hn h=>(oy _ h).2.2.1 hn) (λ h=>(oy _ h).2.2.2.1 rfl) (λ h=>(oy _ h).2.2.2.2.1 rfl) h5;have Ef:=HC.out.upd dS (by rw[HO.out];exact λ h=>(oy _ h).2.2.2.2.1 rfl);have gL:dG w.heap.size=0:=(dS.old _ HC.out.lt).trans HO.out;have K7:Upd (Zp t) own dG w w4:=HU.out.trans (dS.mono λ n h=>h.world ZO);have lx:=(ZW _ w4).alloc (ZL _) (.cells #[ptrV q] 83);have gS:Upd (λ _=>False) dG dG w4 (w4.alloc (.cells #[ptrV q] 83)):=ZUb lx K7.fresh;have Is:=xZ.upd gS (λ h=>h) (λ h=>h) (λ _ _ _ _ h=>h) (λ _ _ h=>h) (λ h=>h) (λ h=>h) h5;have Da:=ZH (qC.upd gS (λ _ _ h=>h));obtain⟨g1,g2,⟨ps,hl,cB,cT,nr⟩,g7,g8⟩:=Is;have Gg:∃ a cap,v = .slice a k cap:=by
    rcases cB.2 with ⟨h1,h2⟩|⟨g,cap,_,h1,_⟩
    ·subst h2;exact⟨none,0,h1⟩
    ·exact⟨_,cap,h1⟩
   obtain⟨aa,eV,rfl⟩:=Gg;obtain⟨jH,jl,JQ,C0,qU,mT,qf,zz,I6⟩:=ZH9 cB cT nr hl g1 g2 g7 g8 (Ef.ob lx);obtain⟨dt,jn,RF⟩:=ZH3 gL (K7.trans (gS.mono (T':=Zp t) λ n h=>h.elim)) gS;have gy:=ZBn w4 83 #[ptrV q];have iH:Hid (Reads (w4.alloc (.cells #[ptrV q] 83)) (w4.alloc (.cells #[ptrV q] 83)).heap.size 1 (some ⟨w4.heap.size,0,none⟩) 1 [ptrV q]):=ZH (Reads.ao gy rfl)
   have iz:Hid (∀ u∈[ptrV q],u.oneCell'=true):=ZH (λ u hu=>by
    obtain rfl:u=_:=by simpa using hu
    rfl)
   have i3:=xZ.blk;obtain⟨e0,e1,e2⟩:=i3.three;have hlb4:=i3.lt;clear oy xZ Ef gL K7 lx gS cB cT nr hl g1 g2 g7 g8 qC dS gy i3
   go_wp2_with (first
    |(at_builtin
      refine Zc _ rfl (.tmp 40) (.tmp 42) _ rfl 0 83 i0 _ 1 8 underlying80 hi cM cG cK rfl ZO (.slice aa k eV) k (ps.map ptrV) rfl jH.out _ (some ⟨w4.heap.size,0,none⟩) 1 1 [ptrV q] rfl iH.out iz.out ZF ZO (Nat.zero_le _) ?_;intro v7 w7 bX cN dP;have xi:Hid (w7.ownsRow 0 83 1 v7 (k+1) (ps.map ptrV++[ptrV q])):=ZH bX;obtain⟨Jo,QL⟩:=ZH2 cN dP;have lh:=mT.out.grown cN (Ne.symm (Zo jH.out mT.out ZJ));have iu:=ZH lh;obtain⟨a3,dm,rfl⟩:∃ a cap,v7 = .slice a (k+1) cap:=by
       rcases bX.2 with ⟨h1,h2⟩|⟨g,cap,_,h1,_⟩
       ·omega
       ·exact⟨_,cap,h1⟩
      have AE:=lh.cell 0;have hfr7:=lh.frozen 0;simp only[ZD,ZE] at AE;have LU:=lh.lt
      clear bX cN dP lh))
   go_roundw
   case rel =>
    obtain⟨dH,bX⟩:∃ o,o=dG.put (.slice a3 (k+1) dm) (t+1):=⟨_,rfl⟩;have cN:=(Upd.refl (· = t+1) dG _ RF.out.fresh).grow (t:=t+1) rfl jl.out (λ g hg=>(Zb xi.out hg).2) Jo.out QL.out;rw[←bX] at cN;obtain⟨jW,iE⟩:=cN;have kP:dH w2.heap.size=t:=(jW.old _ mT.out.lt).trans qU.out;have kz:Upd (· = t) dH dH w7 (w7.setCell ⟨w2.heap.size,0,none⟩ (.slice a3 (k+1) dm)):=(Upd.refl (· = t) dH w7 jW.fresh).setCell (p:=⟨w2.heap.size,0,none⟩) (λ _=>kP) _;have MA:=HubAt.upd (HubAt.upd qf.out jW (λ n hn=>by obtain⟨h1,h2⟩:=hn;omega) (by rw[qf.out.len];exact h5)) kz (λ n hn=>by obtain⟨h1,h2⟩:=hn;omega) (by rw[qf.out.len];exact h5);refine⟨k+1,dH,.slice a3 (k+1) dm,ZO,ZN,ZH ((I6.out.upd jW (by rw[dt.out];omega)).upd kz (by rw[jW.old _ I6.out.lt,dt.out];omega)),ZH ⟨kP,iu.out.ai 0 _,⟨ps++[q],by rw[ZI,C0.out];rfl,?_,λ g hg=>by rw[bX];exact if_pos hg,λ r q' jE=>?_⟩,MA,(zz.out.upd jW ZO ZO).upd kz ZO ZO⟩,ZH ((jW.old _ I6.out.lt).trans dt.out),ZH ((jn.out.trans (jW.mono λ n h=>⟨ZO,ZO⟩)).trans (kz.mono λ n h=>⟨ZO,ZO⟩))⟩
    ·rw[List.map_append];exact Zh xi.out (λ g hg _=>Below.heap_setCell _ _ _ _ (λ he=>Zo xi.out iu.out ZJ (by rw[hg,he])))
    ·rw[List.getElem?_append] at jE;split at jE
     ·exact((JQ.out r q' jE).upd jW (λ n hn=>by obtain⟨h1,h2⟩:=hn;omega)).upd kz (λ n hn=>by obtain⟨h1,h2⟩:=hn;omega)
     ·have wC:r-ps.length=0:=by
       have:=(ZZ.1 jE).1;simp at this;omega
      rw[wC] at jE;have jE:q=q':=by simpa using jE
      subst jE;have LI:r=k:=by have:=C0.out;omega
      subst LI;exact(Da.out.upd jW (λ n hn=>by obtain⟨h1,h2⟩:=hn;omega)).upd kz (λ n hn=>by obtain⟨h1,h2⟩:=hn;omega)
   case measure=>simp[intOf];omega
  ·obtain rfl:k=c.n:=ZO;go_wp2_with fail;go_ret2
   obtain⟨g1,g2,⟨ps,hl,cB,cT,nr⟩,g7,g8⟩:=De.out;have Gg:∃ a cap,v = .slice a c.n cap:=by
    rcases cB.2 with ⟨h1,h2⟩|⟨g,cap,_,h1,_⟩
    ·have:=md.out.n1;omega
    ·exact⟨_,cap,h1⟩
   obtain⟨aa,eV,rfl⟩:=Gg;exact⟨w2.heap.size,io,rfl,⟨g1,aa,eV,hp,w1.heap.size,ps,g2,cB,cT,hl,nr,g7,g8⟩,HU.out⟩
end
abbrev ZkY:Value := .agg #[.int .i64 0,.int .i64 0,.int .i64 0,.int .i64 0,.int .i64 0,.int .i64 0]
theorem ZpR(w:World):Calls prog 103 #[.int .i64 0,.int .i64 5] w (Zv (.bool false) w):=by
 go_enter func103,ntmps103;go_wp2
 go_ret;exact⟨rfl,ZW _ _⟩
theorem ZhA{P:Program}{fn:Func}{t1 y1 t2 t3:Nat}(h:fn.results=#[.cell t1 y1,.tmp t2,.tmp t3]){tmps:Array Value}{w:World}{a1:Addr}{v1 v2 v3:Value}
  (p1:tmps.getD t1 undef = .pointer (some a1)) (p2:tmps.getD t2 undef=v2) (p3:tmps.getD t3 undef=v3) (l1:(loadVar y1 a1).run P w = .ok v1 w):(results fn tmps).run P w = .ok (.tuple #[v1,v2,v3]) w:=by
 have q1:tmps[t1]?.getD undef = .pointer (some a1):=by simpa using p1
 have q2:tmps[t2]?.getD undef=v2:=by simpa using p2
 have q3:tmps[t3]?.getD undef=v3:=by simpa using p3
 simp[results,h,q1,q2,q3,asAddr,l1]
def ZbX(vt vs:Value)(u:Bool)(b l:Clk)(ac:List Clk)(k:Int):Array Value:=#[vt,vs]++Zt u b l ac++#[.int .i64 k]
def ZaV:Array Value:=ZbX (.slice none 0 0) (.slice none 0 0) false ZCz ZCz (List.replicate 5 ZCz) 0
theorem Zsy{α : Type}{l:List α}(h:l.length=5):∃ a b c d e,l=[a,b,c,d,e]:=by
 match l,h with
 | [a,b,c,d,e],_=>exact⟨a,b,c,d,e,rfl⟩
theorem Zil(vt vs:Value)(u:Bool)(b l:Clk){ac:List Clk}(h:ac.length=5)(k:Int):(prog.info? 69).map (λ i=>i.size)=some (ZbX vt vs u b l ac k).size:=by
 obtain⟨a0,a1,a2,a3,a4,rfl⟩:=Zsy h;kernel_rfl
theorem Zhd:(prog.info? 69).map (λ i=>i.size)=some ZaV.size:=ZK
theorem Zop:prog.underlying 69=some (.struct (prog.fieldsOf 69)):=ZK
theorem Zqy(w:World):Calls prog 57 #[ZkY] w (Zv (.bool false) w):=by
 have hb:=ZBn w 23 #[.int .i64 0,.int .i64 0,.int .i64 0,.int .i64 0,.int .i64 0,.int .i64 0];have HK:=ZH ((ZKr w).alloc (.cells #[.int .i64 0,.int .i64 0,.int .i64 0,.int .i64 0,.int .i64 0,.int .i64 0] 23));obtain⟨c0,c1,c2,c3,c4,c5⟩:=hb.aS;have hl:=hb.lt;clear hb;go_enter func57,ntmps57;go_wp2_with fail;refine(ZpR _).mono ?_;rintro _ w1 ⟨rfl,bS⟩;have cE:=ZH (HK.out.step bS);clear bS;go_wp2
 go_ret;exact⟨rfl,cE.out.below⟩
theorem Zlh(w:World):Calls prog 28 #[ZkY] w λ e w'=>e = .returned (.tuple #[.pointer none,.int .i64 1])/\Below w.heap.size w w':=by
 have hb:=ZBn w 23 #[.int .i64 0,.int .i64 0,.int .i64 0,.int .i64 0,.int .i64 0,.int .i64 0];have HK:=ZH ((ZKr w).alloc (.cells #[.int .i64 0,.int .i64 0,.int .i64 0,.int .i64 0,.int .i64 0,.int .i64 0] 23));have dR:∀ (x:Bool) (w:World),(Op.unary .not (.bool x)).run prog w = .ok (.bool (!x)) w:=λ _ _=>rfl
 clear hb;go_enter func28,ntmps28;go_wp2_with fail;refine(Zqy _).mono ?_;rintro _ w1 ⟨rfl,bS⟩;have cE:=ZH (HK.out.step bS);clear bS;go_wp2_with fail;go_ret2
 exact⟨rfl,cE.out.below⟩
theorem ZjL(w:World):Calls prog 12 #[ZkY] w λ e w'=>e = .returned (.tuple #[.pointer none,.int .i64 1])/\Below w.heap.size w w':=by
 have HK:=ZH ((ZKr w).alloc (.cells #[.int .i64 0,.int .i64 0,.int .i64 0,.int .i64 0,.int .i64 0,.int .i64 0] 23));go_enter func12,ntmps12;go_wp2_with fail;refine(Zlh _).mono ?_;rintro _ w1 ⟨rfl,bS⟩;have cE:=ZH (HK.out.step bS);clear bS;go_wp2_with fail;go_ret2
 exact⟨rfl,cE.out.below⟩
theorem Zmw(w:World):Calls prog 53 #[ZkY,.slice none 0 0] w λ e w'=>e = .returned (.tuple #[.pointer none,.slice none 0 0,.int .i64 1])/\Below w.heap.size w w':=by
 have HK:=ZH (((ZKr w).alloc (.cells #[.int .i64 0,.int .i64 0,.int .i64 0,.int .i64 0,.int .i64 0,.int .i64 0] 23)).alloc (.cells #[.slice none 0 0] 24));go_enter func53,ntmps53;go_wp2_with fail;refine(ZjL _).mono ?_;rintro _ w1 ⟨rfl,bS⟩;have cE:=ZH ((HK.out.step bS).alloc (.cells #[.pointer none] 27));clear bS;go_wp2_with fail;refine bodyPost_ret (results_tmp3 rfl _ _ _) rfl ?_;exact⟨rfl,cE.out.below⟩
theorem Zmz(w:World):Calls prog 26 #[ZkY,.slice none 0 0] w λ e w'=>e = .returned (.tuple #[.agg ZaV,.int .i64 1])/\Below w.heap.size w w':=by
 have hk:=((ZKr w).alloc (.cells #[.int .i64 0,.int .i64 0,.int .i64 0,.int .i64 0,.int .i64 0,.int .i64 0] 23)).alloc (.cells ZaV 69);have hz:=ZBn (w.alloc (.cells #[.int .i64 0,.int .i64 0,.int .i64 0,.int .i64 0,.int .i64 0,.int .i64 0] 23)) 69 ZaV;obtain⟨W0,gJ⟩:∃ W0,W0=(w.alloc (.cells #[.int .i64 0,.int .i64 0,.int .i64 0,.int .i64 0,.int .i64 0,.int .i64 0] 23)).alloc (.cells ZaV 69):=⟨_,rfl⟩;have dW:=(ZBn w 23 #[.int .i64 0,.int .i64 0,.int .i64 0,.int .i64 0,.int .i64 0,.int .i64 0]).alloc (.cells ZaV 69);rw[←gJ] at hk hz dW;obtain⟨c0,c1,c2,c3,c4,c5⟩:=dW.aS;have eX:=dW.lt;rw[World.size_alloc] at hz;obtain⟨HK,HZ,l5⟩:=ZH3 hk hz gJ;clear hk hz gJ dW;go_enter func26,ntmps26
 go_wp2_with (first
  |(refine Zy rfl 69 rfl ZaV ZK ?_
    rw[←l5.out]))
 refine(Zmw _).mono ?_;rintro _ w1 ⟨rfl,bS⟩;obtain⟨cE,mn⟩:=ZH2 (HK.out.step bS) (HZ.out.ob bS);clear bS c0 c1 c2 c3 c4 c5 eX
 go_wp2_with (first
  |(refine Zan rfl 69 _ rfl ZaV ?hf ?_
    case hf =>
     go_simp
     kernel_rfl)
  |(refine wpList_store_row rfl 69 (.tmp 4) (.tmp 18) rfl (w.heap.size+1) ZaV rfl rfl 69 ZaV mn.out Zhd rfl ZK ?_))
 refine bodyPost_ret (Zn rfl rfl rfl (run_loadVar_row _ _ _ _ _ _ _ (mn.out.row ZaV) Zop rfl Zhd)) rfl ?_;exact⟨rfl,(cE.out.row ZO _).below⟩
def Zcu:Cfg:=⟨2,2,2,4,2,2⟩
def Zd7:St:=⟨0,0,1,⟨#[99,121]⟩,0,⟨#[]⟩,0,0,0,0,false⟩
def ZfS:WS:=ZfO Zcu 2 (Zab Zcu (Zfe Zcu) Zd7).1
theorem Zq6:(Zbz (ZfS.nodes 1).s).clk=⟨1,0,0,0,0⟩:=ZK
theorem Zsb:(ZfS.nodes 1).s.up=true:=ZK
theorem ZpH:(listN (ZfS.nodes 1).s.book).map (λ c=>c.key)=[⟨#[99,121]⟩]:=ZK
section
theorem Zss:(prog.info? 28).map (λ i=>(i.zero,i.size,i.bytes))=some (some (.int .i64 0),1,8):=ZK
theorem Zst:(prog.info? 38).map (λ i=>(i.zero,i.size,i.bytes))=some (some (.slice none 0 0),1,24):=ZK
theorem Zsv:(prog.info? 47).map (λ i=>(i.zero,i.size,i.bytes))=some (some (.agg (Zx false ZCz 0 (.slice none 0 0) (.slice none 0 0))),9,104):=ZK
theorem Zsz(w:World):(Instr.makeSlice 182 (.int .i64 1) (.int .i64 1)).run prog w = .ok (.slice (some ⟨w.heap.size,0,none⟩) 1 1) (w.alloc (.cells #[.int .i64 0] 28)):=by
 obtain⟨i0,hi,cM,cG,cK⟩:=info_parts Zss;have h:=run_makeSlice (P:=prog) (w:=w) 182 28 i0 (.int .i64 0) underlying182 hi cM .i64 .i64 1 1 ZO (Int.le_refl _) (by rw[cG];omega) (by rw[cK];omega) ZO;rw[cG] at h;have e:madeCells (Value.int .i64 0).cells (1*1)=#[.int .i64 0]:=ZK;rw[h];show Result.ok _ (w.alloc (.cells (madeCells (Value.int .i64 0).cells (1*1)) _))=_
 rw[e];rfl
theorem ZsA(w:World):(Instr.makeSlice 115 (.int .i64 2) (.int .i64 2)).run prog w = .ok (.slice (some ⟨w.heap.size,0,none⟩) 2 2) (w.alloc (.cells #[.slice none 0 0,.slice none 0 0] 38)):=by
 obtain⟨i0,hi,cM,cG,cK⟩:=info_parts Zst;have h:=run_makeSlice (P:=prog) (w:=w) 115 38 i0 (.slice none 0 0) underlying115 hi cM .i64 .i64 2 2 ZO (Int.le_refl _) (by rw[cG];omega) (by rw[cK];omega) ZO;rw[cG] at h;have e:madeCells (Value.slice none 0 0).cells (2*1)=#[.slice none 0 0,.slice none 0 0]:=ZK;rw[h];show Result.ok _ (w.alloc (.cells (madeCells (Value.slice none 0 0).cells (2*1)) _))=_
 rw[e];rfl
abbrev ZkO:List Value:=(Zx false ZCz 0 (.slice none 0 0) (.slice none 0 0)).toList
theorem ZsB(w:World):(Instr.makeSlice 184 (.int .i64 2) (.int .i64 2)).run prog w = .ok (.slice (some ⟨w.heap.size,0,none⟩) 2 2) (w.alloc (.cells (ZkO++ZkO).toArray 47)):=by
 obtain⟨i0,hi,cM,cG,cK⟩:=info_parts Zsv;have h:=run_makeSlice (P:=prog) (w:=w) 184 47 i0 _ underlying184 hi cM .i64 .i64 2 2 ZO (Int.le_refl _) (by rw[cG];omega) (by rw[cK];omega) ZO;rw[cG] at h;have e:madeCells (Zx false ZCz 0 (.slice none 0 0) (.slice none 0 0)) (2*9)=(ZkO++ZkO).toArray:=ZK;rw[h];show Result.ok _ (w.alloc (.cells (madeCells (Zx false ZCz 0 (.slice none 0 0) (.slice none 0 0)) (2*9)) _))=_
 rw[e];rfl
section
variable {own:Own}{t p m b:Nat}{w:World}{c:Cfg}{B:Bd}{x:WS}
theorem Zmv{s:St}(ht:0<t)(h:WorldAt own t w p c x)(hf:Fresh own w)(hi:WInv c B m b x)(hc:c.Ok)(hm:m<100)(hb:b+1<=700)(hs:StOk c s){b7 b3 g:Nat}(h7:Blk w b7 27 #[ptrV p])(h3:Blk w b3 24 #[.slice (some ⟨g,0,none⟩) 1 1])(hg:Blk w g 36 (Zaz s)):
  Calls prog 100 #[.int .i64 0,ptrV b7,ptrV b3] w (ZdI own t p c w s (Zab c x)):=by
 have h5:=hc.n5;obtain⟨HW,HF,HI,HC,HS,H7,H3,HG⟩:=ZH8 h hf hi hc hs h7 h3 hg;clear h hf hi hc hs h7 h3 hg;go_enter func100,ntmps100;go_wp2_with fail;refine ZSi [(0,0),(1,0),(2,3),(3,3),(4,0),(5,2),(6,3)] λ bR=>?_
 repeat((first | refine ZSa ?_ | refine ZSb ?_ | (refine Zf rfl (by rfl) (λ w' ci=>by(have h7:=(H7.out.ob ci.below).cell 0;simp only[ZD,ZE] at h7);(have h3:=(H3.out.ob ci.below).cell 0;simp only[ZD,ZE] at h3);(obtain⟨x0,x1,x2,x3,x4,x5,x6,x7,x8,x9⟩:=(HG.out.ob ci.below).aM);go_simp;with_reducible rfl) ?_));simp only[Act.put,ZA,ZB,ZC])
 refine ZSe λ K hK=>?_
 go_simp;have dh:Upd (λ _=>False) own own w w.drew:=ZUb (ZW w.heap.size w).drew HF.out;refine(Zjh ht (HW.out.upd dh (λ _ _ h=>h) (λ h=>h) h5) dh.fresh HI.out HC.out ZO ZO HS.out).mono ?_;intro e w2 hP;obtain⟨tb,gG,rfl,own',hw,hu⟩:=hP;have HP:Hid (ZdI own t p c w s (Zab c x) (.returned (.int .i64 (Zab c x (Zu s tb)).2)) w2):=ZH ⟨tb,gG,rfl,own',hw,(dh.mono (T':=Zp t) λ n h=>h.elim).trans hu⟩;clear gG hw hu dh;obtain⟨kc,wD⟩:∃ kc,kc=(Zab c x (Zu s tb)).2:=⟨_,rfl⟩;rw[←wD] at HP ⊢;refine hK.out _ _ ?_;clear hK K bR wD;repeat((first | refine ZSa ?_ | refine ZSb ?_ | refine ZSc ?_);simp only[Act.put,ZA,ZB,ZC])
 refine ZSf ?_;go_wp2
 go_ret;exact HP.out
def Zh9(own:Own)(t p:Nat)(c:Cfg)(w:World)(s:St)(x:WS)(e:Ending)(w':World):Prop :=
 ∃ tb a own',(s.kind≠7->tb=s.turned)/\e = .returned (.slice (some a) 1 1)/\WorldAt own' t w' p c (Zab c x (Zu s tb)).1/\Upd (Zp t) own own' w w'
theorem Zmc{s:St}(ht:0<t)(h:WorldAt own t w p c x)(hf:Fresh own w)(hi:WInv c B m b x)(hc:c.Ok)(hm:m<100)(hb:b+1<=700)(hs:StOk c s){b7 b3 g:Nat}(h7:Blk w b7 27 #[ptrV p])(h3:Blk w b3 24 #[.slice (some ⟨g,0,none⟩) 1 1])(hg:Blk w g 36 (Zaz s)):
  Calls prog 99 #[.int .i64 1,.func (.func 100) #[] #[ptrV b7,ptrV b3]] w (Zh9 own t p c w s x):=by
 have h5:=hc.n5;have lN:=Zsz;have hk:=(ZKr w).alloc (.cells #[.int .i64 0] 28);have hu:Upd (λ _=>False) own own w (w.alloc (.cells #[.int .i64 0] 28)):=ZUb hk.below hf;have gy:=ZBn w 28 #[.int .i64 0];have Gc:=hu.am (ZL w.heap.size) gy.lt (t+5000);obtain⟨o0,Ma⟩:∃ o0,o0=own.at_ w.heap.size (t+5000):=⟨_,rfl⟩;rw[←Ma] at Gc;have qZ:Hid (o0 w.heap.size=t+5000):=ZH (by rw[Ma];exact if_pos rfl);obtain⟨ee,HB,HU⟩:=ZH3 (Zmv ht (h.upd Gc (λ _ _ h=>h) (λ h=>h) h5) Gc.fresh hi hc hm hb hs (h7.ob hk.below) (h3.ob hk.below) (hg.ob hk.below)) gy Gc;obtain⟨W0,gJ⟩:∃ W0,W0=w.alloc (.cells #[.int .i64 0] 28):=⟨_,rfl⟩;have l5:=ZH gJ;rw[←gJ] at HB HU ee;clear h hf hi hs h7 h3 hg hk hu gJ Gc Ma gy;go_enter func99,ntmps99;go_wp2_with fail;rw[←l5.out];go_loopw [11] (λ i wr=>(i = .int .i64 0/\Hid (wr=W0))∨(i = .int .i64 1/\Hid (Zh9 own t p c w s x (.returned (.slice (some ⟨w.heap.size,0,none⟩) 1 1)) wr))) (λ i _=>1-(intOf i).toNat)
 case atStart=>exact .inl ⟨rfl,ZH rfl⟩
 case round =>
  rcases hrel with ⟨rfl,hrel⟩|⟨rfl,hrel⟩
  ·obtain rfl:=hrel.out;go_wp2_with fail;refine ee.out.mono ?_;intro e w2 hP;obtain⟨tb,gG,rfl,own',hw,hu⟩:=hP;obtain⟨kc,wD⟩:∃ kc,kc=(Zab c x (Zu s tb)).2:=⟨_,rfl⟩;rw[←wD];have bW:=HB.out.upd hu (by rw[qZ.out];rintro⟨h1,h2⟩;omega);have qE:=(hu.old _ HB.out.lt).trans qZ.out;have dW:=bW.cell 0;simp only[ZD,ZE] at dW;have qr:=bW.frozen 0;have cQ:=bW.lt;have oR:=hw.upd ((Upd.refl (· = t+5000) own' w2 hu.fresh).setCell (p:=⟨w.heap.size,0,none⟩) (λ _=>qE) (.int .i64 kc)) (λ n hn=>by obtain⟨h1,h2⟩:=hn;omega) ZO h5;have cO:Upd (Zp t) own own' w (w2.setCell ⟨w.heap.size,0,none⟩ (.int .i64 kc)):=((HU.out.mono (T':=Zp t) λ n h=>h.elim).trans hu).setCell (p:=⟨w.heap.size,0,none⟩) (λ h=>absurd h (Nat.lt_irrefl _)) _;have HP:Hid (Zh9 own t p c w s x (.returned (.slice (some ⟨w.heap.size,0,none⟩) 1 1)) (w2.setCell ⟨w.heap.size,0,none⟩ (.int .i64 kc))):=ZH ⟨tb,_,own',gG,rfl,oR,cO⟩;clear gG hw hu wD bW qE oR cO ee;go_wp2
   go_roundw
   case rel=>exact .inr ⟨rfl,HP⟩
   case measure=>simp[intOf]
  ·go_wp2
   go_ret;exact hrel.out
end
end
end Go.Proofs.YtjkfognelhiepaaGreat
