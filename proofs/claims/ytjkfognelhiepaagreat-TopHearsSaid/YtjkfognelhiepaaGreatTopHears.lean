/- TopHears: for every input the law returns true and leaves its arguments as they were. No condition. -/
import Derived.Test.YtjkfognelhiepaaGreatH03
import Derived.Test.YtjkfognelhiepaaGreatChecked
namespace Go.Proofs.YtjkfognelhiepaaGreat
open Go.RowKit _root_.Go.Proofs.Tryz
set_option maxRecDepth 100000
set_option maxHeartbeats 8000000
end Go.Proofs.YtjkfognelhiepaaGreat
namespace Go.Proofs.YtjkfognelhiepaaGreat.topHears
open Go.RowKit _root_.Go.Proofs.Tryz
set_option maxRecDepth 100000
set_option maxHeartbeats 8000000
open Go.ChangeShapes Go.WideShapes Go.ChangeAt Go.RowKit
open Go.ChangeMaps (open_string shut_string)
theorem own_:ownKnob prog.godebug=none:=ZK
theorem laid_:laidOutB prog=true:=ZK
theorem lifted(os:Os)(started:os.Started)(H:Type)(enc:TypeId × Value->H):
  ReturnsInHanded {} checked os 8 .any (Rows.topHearsSpec.pre6 enc prog f8 Rows.topHearsRow.domain false) (Rows.topHearsSpec.post enc prog f8 false true false false):=by
 refine returnsInHanded_of_change_sized (C:=checked) own_ started ZK func8
  (ChangeSpec.witness6 (enc:=enc) (C:=checked) false ⟨#[],#[.agg #[.int .i64 0,.int .i64 0,.int .i64 0,.int .i64 0,.int .i64 0,.int .i64 0],.slice none 0 0],[]⟩ 8 ZK ZK ZK ZK) ?_
 intro W base args ds gs before bE hW hcnd cQ _;have bX:∀ (j:Nat) t v,f8.params[j]? = some t->args[j]? = some v->Value.okWide prog W .any base t v:=bE;have eW:=hW;obtain⟨p,q,dX,hV,rfl,ef,hnd⟩:=hW;have hA:DataW.TrodAll enc prog W 0 (λ _=>true) true f8.params.toList args.toList ds p:=dX;rw[params8] at hA bX;obtain⟨v0,vs0,d0,ds0,p0,q0,hargs,rfl,rfl,h0,r0⟩:=trodAll_cons hA;obtain⟨v1,vs1,d1,ds1,p1,q1,rfl,rfl,rfl,h1,r1⟩:=trodAll_cons r0;obtain⟨rfl,rfl,rfl⟩:=trodAll_nil r1;obtain rfl:args=#[v0,v1]:=by cases args;simp_all
 obtain⟨rfl,rfl⟩:=trodVars_none hV;have k0:=h0;have fg:∀ x∈p0,x.block<W.heap.size:=by obtain⟨m,hm⟩:=k0;exact DataW.trod_lt m _ _ _ hm
 have k1:=h1;have fh:∀ x∈p1,x.block<W.heap.size:=by obtain⟨m,hm⟩:=k1;exact DataW.trod_lt m _ _ _ hm
 have dI:∀ m∈d1.weights prog 24,m<=reachBytes:=λ m hm=>of_decide_eq_true (List.all_eq_true.1 cQ _ (DataW.weights_mem_each (j:=1) (by rw[params8];rfl) rfl m hm))
 obtain⟨x0,x1,x2,x3,x4,x5,rfl⟩:=ZsH (bX 0 23 _ rfl rfl) h0;obtain⟨a1,n1,c1,ss,rfl,fa,dz,dB,cq⟩:=ZsL (bX 1 24 _ rfl rfl) h1 dI;clear dX bE;refine(Ztd x0 x1 x2 x3 x4 x5 dB fa dz cq).mono λ e W' ⟨he,de⟩=>?_
 subst he;exact⟨_,rfl,_,_,_,[],_,[],eW,trodAll_mk1 (shut_bool underlying4 _),(trodAll_cons_mk (Below.trod laid_ ZK (of_decide_eq_true ZK) k0 de fg) (trodAll_cons_mk (Below.trod laid_ ZK (of_decide_eq_true ZK) k1 de fh) trodAll_mk0)),rfl,de.frame _,λ h=>by cases h⟩
theorem Ztm:Rows.topHearsRow.holds Tryz.pinned (OpenSpec.ofChange Rows.topHearsSpec) :=
 OpenClaim.holds_of_wide 8 f8 rfl rfl rfl rfl rfl rfl rfl ⟨rfl,rfl,rfl,rfl,rfl⟩ rfl rfl rfl rfl rfl ZK func8 ZK
  (of_decide_eq_true ZK) (by unfold Func.isWrapper;first|(rw[if_pos (by decide +kernel)];kernel_rfl)|(rw[if_neg (by decide +kernel)];exact⟨rfl,rfl⟩))
  (λ os started H enc _=>lifted os started H enc)
theorem proved:Rows.TopHearsSaid:=Ztm
end Go.Proofs.YtjkfognelhiepaaGreat.topHears
namespace Go.Proofs.YtjkfognelhiepaaGreat
open Go.RowKit _root_.Go.Proofs.Tryz
set_option maxRecDepth 100000
set_option maxHeartbeats 8000000
end Go.Proofs.YtjkfognelhiepaaGreat
