import Derived.Test.YtlkjdchmeihhkaaGreatDoorBk8
import Derived.ProofKit
import Derived.Deep.DeepHandedRow
import Derived.LaidMore
import Derived.Lib.LaidTab
set_option autoImplicit true
set_option relaxedAutoImplicit true
set_option linter.all false
set_option maxRecDepth 20000
namespace Go.Proofs.YtlkjdchmeihhkaaGreatDoor
open Go Go.Sim Go.ChangeShapes Go.WideShapes Go.ChangeAt Go.RowKit Go.Proofs.Tryz
variable [Fu]
namespace DBackKeeps
def S_:Prop:=∀(a:dF) (b:dg),la a→js b→ig a+fS b≤1048576→fb a b=some true
theorem SD : prog.globalNamed "churn/hash.roots" = some 1 := kr
theorem DH:(prog.globals[1]?).map (·.type)=some 307:=kr
theorem FY:prog.cellsOf 307=64:=kr
theorem FZ:prog.cellsOf 159=1:=kr
theorem uK (h : laidMetH prog Rows.backKeepsUptoRow.laid W): Lib.TabIs prog W "churn/hash.roots" .u32 rN :=
 Lib.tabIs_of_head (rest:=[]) SD DH Oo PE FZ FY h
theorem Gk (h:laidMetH prog Rows.backKeepsUptoRow.laid W):uo W:=⟨λg k xs e=>by have ht:=uK h;unfold Lib.TabIs World.var? at ht;rw[SD] at ht;simp only[GP] at ht;cases hb:Nat.beq 1 g with|false=>(have e2:A7 g A6=none:=by show cond (Nat.beq 1 g) _ _=_;rw[hb];rfl);rw[e2] at e;cases e|true=>obtain rfl:1=g:=Hw hb;have e2:A7 1 A6=some (.u32,rN):=rfl;rw[e2] at e;cases e;split at ht;rename_i cs t fr hh;cases ht;exact⟨_,_,hh⟩;cases ht⟩
theorem own:ownKnob prog.godebug=none:=kr
theorem UD:Kids prog (· <prog.types.size):=kids_rows kr kr
theorem full:∀t e,t<prog.types.size→prog.underlying t=some (.slice e)→0<prog.cellsOf e:=slices_full_of prog kr
theorem blk (H:Type):Sz (Rows.uptoBulk (H:=H)) Rows.uptoBulkAll:=⟨by simp[Rows.uptoBulkAll],λ_ _=>by simp[Rows.uptoBulkAll],λ_ _=>by simp only[Rows.uptoBulk];omega,λ_=>by simp[Rows.uptoBulk],λl=>by cases l<;>simp[Rows.uptoBulk],λ_=>by simp[Rows.uptoBulk],by simp[Rows.uptoBulk]⟩
theorem Qj (law:S_) (H:Type) (enc:TypeId×Value→H) (W:World) (base:Nat) (args:Array Value) (ds gs:List (DataW H)) (before:List MemPlace) (hval:∀(j:Nat) t v,Tryz.f5.params[j]? =some t→args[j]? =some v→Value.okWide prog W .any base t v) (hW:DataW.Whole enc prog Tryz.f5.params.toList Rows.backKeepsSpec.vars false W args.toList ds gs before) (hk:Rows.uptoSmall H (ds++gs)=true) (hL:laidMetH prog Rows.backKeepsUptoRow.laid W): Calls prog 5 args W λe W'=>∃v,e= .returned v∧Rows.backKeepsSpec.post enc prog Tryz.f5 false true false false W args v W':=by have hW0:=hW;haveI:uo W:=Gk hL;obtain⟨p,q,hA,hV,hpq,hz,hn⟩:=hW;obtain⟨rfl,rfl⟩:=trodVars_none hV;rw[show Tryz.f5.params.toList=[44,56] from by rw[Tryz.params5]] at hA;rw[Tryz.params5] at hval;obtain⟨v0,vs0,d0,ds0,p0,q0,ha0,hd0,_,t0,r0⟩:=trodAll_cons hA;obtain⟨v1,vs1,d1,ds1,p1,q1,ha1,hd1,_,t1,r1⟩:=trodAll_cons r0;obtain⟨hvn,hdn,_⟩:=trodAll_nil r1;subst hvn;subst hdn;subst ha1;subst hd1;subst hd0;(obtain rfl:args=#[v0,v1]:=by cases args;simp_all);obtain⟨n0,t0⟩:=t0;obtain⟨x0,c0,g0,b0⟩:=UE (blk H) t0;have k0:=MV (K:=cl) UM.agg (hval 0 44 v0 rfl rfl) c0;obtain⟨n1,t1⟩:=t1;obtain⟨x1,c1,g1,b1⟩:=UF (blk H) t1;have k1:=MV (K:=gd) UZ.agg (hval 1 56 v1 rfl rfl) c1;dsimp only at b0 b1;have hb:=GF hk;simp only[Rows.uptoBulkAll,HY] at hb;have hlaw:=law x0 x1 g0 g1 (by omega);exact DC hW0 rfl rfl (tb:=4) rfl underlying4 UD full (by rw[Tryz.params5];decide)<|UH hlaw [] (y_ W) W [v0,v1] (by simp only[SV.oks,SV.ok];exact⟨k0,k1,trivial⟩) (NW W)
noncomputable def sJ (a:Os):World:={World.holding prog a ⟨#[],#[],[]⟩ with heap:=(World.holding prog a ⟨#[],#[],[]⟩).heap.modify 1 fun| .cells _ t frozen=> .cells (rN.map (Value.int .u32 ·)).toArray t frozen|o=>o}
theorem DI (a:Os):laidMet prog Rows.backKeepsUptoRow.laid ((sJ a).forCall (λ_ _=>0) ⟨#[],#[(Value.agg (List.replicate 1 (.slice none 0 0:Value)++List.replicate 12 (.int .i64 0:Value)++List.replicate 3 (.slice none 0 0:Value)).toArray:Value),(Value.agg (List.replicate 1 (.slice none 0 0:Value)++List.replicate 14 (.int .i64 0:Value)++List.replicate 3 (.slice none 0 0:Value)).toArray:Value)],[]⟩).memory:=laidMet_of_run' 8 kr kr
theorem reads (a:Os) (enc:TypeId×Value→H):∃b,DataW.whole enc prog ((sJ a).forCall (λ_ _=>0) ⟨#[],#[(Value.agg (List.replicate 1 (.slice none 0 0:Value)++List.replicate 12 (.int .i64 0:Value)++List.replicate 3 (.slice none 0 0:Value)).toArray:Value),(Value.agg (List.replicate 1 (.slice none 0 0:Value)++List.replicate 14 (.int .i64 0:Value)++List.replicate 3 (.slice none 0 0:Value)).toArray:Value)],[]⟩).memory Tryz.f5.params.toList Rows.backKeepsSpec.vars false (#[(Value.agg (List.replicate 1 (.slice none 0 0:Value)++List.replicate 12 (.int .i64 0:Value)++List.replicate 3 (.slice none 0 0:Value)).toArray:Value),(Value.agg (List.replicate 1 (.slice none 0 0:Value)++List.replicate 14 (.int .i64 0:Value)++List.replicate 3 (.slice none 0 0:Value)).toArray:Value)]).toList 8=some ([.agg [.agg [.nil,.lit (.int .i64 0),.lit (.int .i64 0),.lit (.int .i64 0),.lit (.int .i64 0),.lit (.int .i64 0),.lit (.int .i64 0),.lit (.int .i64 0),.lit (.int .i64 0),.lit (.int .i64 0),.lit (.int .i64 0)],.agg [.lit (.int .i64 0),.agg [.lit (.int .i64 0),.nil]],.nil,.nil],.agg [.agg [.nil,.lit (.int .i64 0),.lit (.int .i64 0),.lit (.int .i64 0),.lit (.int .i64 0),.lit (.int .i64 0),.lit (.int .i64 0),.lit (.int .i64 0),.lit (.int .i64 0),.lit (.int .i64 0),.lit (.int .i64 0)],.agg [.agg [.lit (.int .i64 0),.lit (.int .i64 0),.lit (.int .i64 0)],.lit (.int .i64 0),.nil,.nil],.nil]],[],b):=⟨[],kr⟩
set_option maxRecDepth 100000 in
theorem RG (law:S_) (os:Os) (started:os.Started) (H:Type) (enc:TypeId×Value→H) (F:Stop.Interp): ReturnsInHanded {} Tryz.checked os 5 .any ((Rows.OpenSpec.upto Rows.backKeepsSpec).preRow enc prog Tryz.f5 Rows.backKeepsUptoRow.domain false Rows.backKeepsUptoRow.laid) (((Rows.OpenSpec.upto Rows.backKeepsSpec).at F).post enc prog Tryz.f5 false true false false):=by obtain⟨places,hx⟩:=reads os enc;refine returnsInHanded_of_row (C:=Tryz.checked) (s:=Rows.OpenSpec.upto Rows.backKeepsSpec) own started kr func5 (witness_row_at (enc:=enc) (C:=Tryz.checked) false (sJ os) #[(Value.agg (List.replicate 1 (.slice none 0 0:Value)++List.replicate 12 (.int .i64 0:Value)++List.replicate 3 (.slice none 0 0:Value)).toArray:Value),(Value.agg (List.replicate 1 (.slice none 0 0:Value)++List.replicate 14 (.int .i64 0:Value)++List.replicate 3 (.slice none 0 0:Value)).toArray:Value)] rfl kr kr kr (OpenSpec.preRow_of_cond 8 hx kr (λk hk=>by cases hk;kernel_rfl) kr (DI os))) ?_;intro W base args ds gs before hval hW _ hk _ hL _ _;exact Qj law H enc W base args ds gs before hval hW (hk _ rfl) hL
end DBackKeeps
end Go.Proofs.YtlkjdchmeihhkaaGreatDoor
