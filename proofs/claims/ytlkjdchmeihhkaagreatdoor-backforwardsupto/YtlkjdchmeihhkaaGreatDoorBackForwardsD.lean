import Derived.Test.YtlkjdchmeihhkaaGreatDoorBf10
import Derived.ProofKit
import Derived.Deep.DeepHandedRow
import Derived.LaidMore
import Derived.Lib.LaidTab
set_option autoImplicit true
set_option relaxedAutoImplicit true
set_option linter.all false
set_option maxRecDepth 20000
namespace Go.Proofs.YtlkjdchmeihhkaaGreatDoor
open Go Go.Sim Go.ChangeShapes Go.WideShapes Go.ChangeAt Go.RowKit Go.Proofs.Tryz
variable [Fu]
namespace DBackForwards
def WS:Prop:=∀(a:dF),nb a→jx a≤1048576→eu a=some true
theorem Wk : prog.globalNamed "churn/hash.roots" = some 1 := kr
theorem Fs:(prog.globals[1]?).map (·.type)=some 307:=kr
theorem HL:prog.cellsOf 307=64:=kr
theorem HM:prog.cellsOf 159=1:=kr
theorem PS (h : laidMetH prog Rows.backForwardsUptoRow.laid W): Lib.TabIs prog W "churn/hash.roots" .u32 v8 :=
 Lib.tabIs_of_head (rest:=[]) Wk Fs xI Sb HM HL h
theorem H5 (h:laidMetH prog Rows.backForwardsUptoRow.laid W):wR W:=⟨λg k xs e=>by have ht:=PS h;unfold Lib.TabIs World.var? at ht;rw[Wk] at ht;simp only[Is] at ht;cases hb:Nat.beq 1 g with|false=>(have e2:CS g CR=none:=by show cond (Nat.beq 1 g) _ _=_;rw[hb];rfl);rw[e2] at e;cases e|true=>obtain rfl:1=g:=Jz hb;have e2:CS 1 CR=some (.u32,v8):=rfl;rw[e2] at e;cases e;split at ht;rename_i cs t fr hh;cases ht;exact⟨_,_,hh⟩;cases ht⟩
theorem own:ownKnob prog.godebug=none:=kr
theorem Xv:Kids prog (· <prog.types.size):=kids_rows kr kr
theorem full:∀t e,t<prog.types.size→prog.underlying t=some (.slice e)→0<prog.cellsOf e:=slices_full_of prog kr
theorem blk (H:Type):WD (Rows.uptoBulk (H:=H)) Rows.uptoBulkAll:=⟨by simp[Rows.uptoBulkAll],λ_ _=>by simp[Rows.uptoBulkAll],λ_ _=>by simp only[Rows.uptoBulk];omega,λ_=>by simp[Rows.uptoBulk],λl=>by cases l<;>simp[Rows.uptoBulk],λ_=>by simp[Rows.uptoBulk],by simp[Rows.uptoBulk]⟩
theorem TU (a:WS) (H:Type) (enc:TypeId×Value→H) (W:World) (b:Nat) (c:Array Value) (ds gs:List (DataW H)) (d:List MemPlace) (f:∀(j:Nat) t v,Tryz.f4.params[j]? =some t→c[j]? =some v→Value.okWide prog W .any b t v) (b:DataW.Whole enc prog Tryz.f4.params.toList Rows.backForwardsSpec.vars false W c.toList ds gs d) (d:Rows.uptoSmall H (ds++gs)=true) (h:laidMetH prog Rows.backForwardsUptoRow.laid W): Calls prog 4 c W λe i=>∃v,e= .returned v∧Rows.backForwardsSpec.post enc prog Tryz.f4 false true false false W c v i:=by have i:=b;haveI:wR W:=H5 h;obtain⟨p,q,h,k,l,l,l⟩:=b;obtain⟨rfl,rfl⟩:=trodVars_none k;rw[show Tryz.f4.params.toList=[44] from by rw[Tryz.params4]] at h;rw[Tryz.params4] at f;obtain⟨b,k,d0,k,k,k,k,k,_,t0,l⟩:=trodAll_cons h;obtain⟨h,m,_⟩:=trodAll_nil l;subst h;subst m;subst k;(obtain rfl:c=#[b]:=by cases c;simp_all);obtain⟨c,t0⟩:=t0;obtain⟨c,h,k,l⟩:=X4 (blk H) t0;have m:=Pq (K:=ka) Yg.agg (f 0 44 b rfl rfl) h;dsimp only at l;have f:=Ir d;simp only[Rows.uptoBulkAll,JW] at f;have d:=a c k (by omega);exact Z4 i rfl rfl (tb:=4) rfl underlying4 Xv full (by rw[Tryz.params4];decide)<|o36 d [] (QY W) W [b] (by simp only[SV.oks,SV.ok];exact⟨m,trivial⟩) (Pz W)
noncomputable def vy (a:Os):World:={World.holding prog a ⟨#[],#[],[]⟩ with heap:=(World.holding prog a ⟨#[],#[],[]⟩).heap.modify 1 fun| .cells _ t frozen=> .cells (v8.map (Value.int .u32 ·)).toArray t frozen|o=>o}
theorem Ft (a:Os):laidMet prog Rows.backForwardsUptoRow.laid ((vy a).forCall (λ_ _=>0) ⟨#[],#[(Value.agg (List.replicate 1 (.slice none 0 0:Value)++List.replicate 12 (.int .i64 0:Value)++List.replicate 3 (.slice none 0 0:Value)).toArray:Value)],[]⟩).memory:=laidMet_of_run' 8 kr kr
theorem reads (a:Os) (enc:TypeId×Value→H):∃b,DataW.whole enc prog ((vy a).forCall (λ_ _=>0) ⟨#[],#[(Value.agg (List.replicate 1 (.slice none 0 0:Value)++List.replicate 12 (.int .i64 0:Value)++List.replicate 3 (.slice none 0 0:Value)).toArray:Value)],[]⟩).memory Tryz.f4.params.toList Rows.backForwardsSpec.vars false (#[(Value.agg (List.replicate 1 (.slice none 0 0:Value)++List.replicate 12 (.int .i64 0:Value)++List.replicate 3 (.slice none 0 0:Value)).toArray:Value)]).toList 8=some ([.agg [.agg [.nil,.lit (.int .i64 0),.lit (.int .i64 0),.lit (.int .i64 0),.lit (.int .i64 0),.lit (.int .i64 0),.lit (.int .i64 0),.lit (.int .i64 0),.lit (.int .i64 0),.lit (.int .i64 0),.lit (.int .i64 0)],.agg [.lit (.int .i64 0),.agg [.lit (.int .i64 0),.nil]],.nil,.nil]],[],b):=⟨[],kr⟩
set_option maxRecDepth 100000 in
theorem VM (law:WS) (os:Os) (started:os.Started) (H:Type) (enc:TypeId×Value→H) (F:Stop.Interp): ReturnsInHanded {} Tryz.checked os 4 .any ((Rows.OpenSpec.upto Rows.backForwardsSpec).preRow enc prog Tryz.f4 Rows.backForwardsUptoRow.domain false Rows.backForwardsUptoRow.laid) (((Rows.OpenSpec.upto Rows.backForwardsSpec).at F).post enc prog Tryz.f4 false true false false):=by obtain⟨places,hx⟩:=reads os enc;refine returnsInHanded_of_row (C:=Tryz.checked) (s:=Rows.OpenSpec.upto Rows.backForwardsSpec) own started kr func4 (witness_row_at (enc:=enc) (C:=Tryz.checked) false (vy os) #[(Value.agg (List.replicate 1 (.slice none 0 0:Value)++List.replicate 12 (.int .i64 0:Value)++List.replicate 3 (.slice none 0 0:Value)).toArray:Value)] rfl kr kr kr (OpenSpec.preRow_of_cond 8 hx kr (λk hk=>by cases hk;kernel_rfl) kr (Ft os))) ?_;intro W base args ds gs before hval hW _ hk _ hL _ _;exact TU law H enc W base args ds gs before hval hW (hk _ rfl) hL
end DBackForwards
end Go.Proofs.YtlkjdchmeihhkaaGreatDoor
