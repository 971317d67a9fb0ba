import Derived.Test.YtobbmodjdkcdcaaGreatDoorRm9
import Derived.ProofKit
import Derived.Deep.DeepHandedRow
import Derived.LaidMore
import Derived.Lib.LaidTab
set_option autoImplicit true
set_option relaxedAutoImplicit true
set_option linter.all false
set_option maxRecDepth 20000
namespace Go.Proofs.YtobbmodjdkcdcaaGreatDoor
open Go Go.Sim Go.ChangeShapes Go.WideShapes Go.ChangeAt Go.RowKit Go.Proofs.Tryz
variable [Fu]
namespace DRoundMixes
def XV:Prop:=∀(x0:dk),mK x0→jb x0≤1048576→eP x0=some true
theorem XT : prog.globalNamed "churn/hash.roots" = some 0 := kr
theorem FH:(prog.globals[0]?).map (·.type)=some 319:=kr
theorem GZ:prog.cellsOf 319=64:=kr
theorem G1:prog.cellsOf 142=1:=kr
theorem RC (h : laidMetH prog Rows.roundMixesUptoRow.laid W): Lib.TabIs prog W "churn/hash.roots" .u32 QH :=
 Lib.tabIs_of_head (rest:=[]) XT FH QX T9 G1 GZ h
theorem G9 (h:laidMetH prog Rows.roundMixesUptoRow.laid W):vv W:=⟨λg k xs e=>by have ht:=RC h;unfold Lib.TabIs World.var? at ht;rw[XT] at ht;simp only[Hs] at ht;cases hb:Nat.beq 0 g with|false=>(have e2:BY g BX=none:=by show cond (Nat.beq 0 g) _ _=_;rw[hb];rfl);rw[e2] at e;cases e|true=>obtain rfl:0=g:=It hb;have e2:BY 0 BX=some (.u32,QH):=rfl;rw[e2] at e;cases e;split at ht;rename_i cs t fr hh;cases ht;exact⟨_,_,hh⟩;cases ht⟩
theorem own:ownKnob prog.godebug=none:=kr
theorem kids:Kids prog (· <prog.types.size):=kids_rows kr kr
theorem full:∀t e,t<prog.types.size→prog.underlying t=some (.slice e)→0<prog.cellsOf e:=slices_full_of prog kr
theorem blk (H:Type):X6 (Rows.uptoBulk (H:=H)) Rows.uptoBulkAll:=⟨by simp[Rows.uptoBulkAll],λ_ _=>by simp[Rows.uptoBulkAll],λ_ _=>by simp only[Rows.uptoBulk];omega,λ_=>by simp[Rows.uptoBulk],λl=>by cases l<;>simp[Rows.uptoBulk],λ_=>by simp[Rows.uptoBulk],by simp[Rows.uptoBulk]⟩
theorem Vi (law:XV) (H:Type) (enc:TypeId×Value→H) (W:World) (base:Nat) (args:Array Value) (ds gs:List (DataW H)) (before:List MemPlace) (hval:∀(j:Nat) t v,Tryz.f3.params[j]? =some t→args[j]? =some v→Value.okWide prog W .any base t v) (hW:DataW.Whole enc prog Tryz.f3.params.toList Rows.roundMixesSpec.vars false W args.toList ds gs before) (hk:Rows.uptoSmall H (ds++gs)=true) (hL:laidMetH prog Rows.roundMixesUptoRow.laid W): Calls prog 3 args W λe W'=>∃v,e= .returned v∧Rows.roundMixesSpec.post enc prog Tryz.f3 false true false false W args v W':=by have hW0:=hW;haveI:vv W:=G9 hL;obtain⟨p,q,hA,hV,hpq,hz,hn⟩:=hW;obtain⟨rfl,rfl⟩:=trodVars_none hV;rw[show Tryz.f3.params.toList=[31] from by rw[Tryz.params3]] at hA;rw[Tryz.params3] at hval;obtain⟨v0,vs0,d0,ds0,p0,q0,ha0,hd0,_,t0,r0⟩:=trodAll_cons hA;obtain⟨hvn,hdn,_⟩:=trodAll_nil r0;subst hvn;subst hdn;subst hd0;(obtain rfl:args=#[v0]:=by cases args;simp_all);obtain⟨n0,t0⟩:=t0;obtain⟨x0,c0,g0,b0⟩:=ZP (blk H) t0;have k0:=On (K:=jA) aam.agg (hval 0 31 v0 rfl rfl) c0;dsimp only at b0;have hb:=Hr hk;simp only[Rows.uptoBulkAll,IS] at hb;have hlaw:=law x0 g0 (by omega);exact Ev hW0 rfl rfl (tb:=4) rfl underlying4 kids full (by rw[Tryz.params3];decide)<|Zd hlaw [] (SL W) W [v0] (by simp only[SV.oks,SV.ok];exact⟨k0,trivial⟩) (OC W)
noncomputable def uJ (os:Os):World:={World.holding prog os ⟨#[],#[],[]⟩ with heap:=(World.holding prog os ⟨#[],#[],[]⟩).heap.modify 0 fun| .cells _ t frozen=> .cells (QH.map (Value.int .u32 ·)).toArray t frozen|o=>o}
theorem FI (os:Os):laidMet prog Rows.roundMixesUptoRow.laid ((uJ os).forCall (λ_ _=>0) ⟨#[],#[(Value.agg (List.replicate 1 (.slice none 0 0:Value)++List.replicate 12 (.int .i64 0:Value)++List.replicate 3 (.slice none 0 0:Value)).toArray:Value)],[]⟩).memory:=laidMet_of_run' 8 kr kr
theorem reads (os:Os) (enc:TypeId×Value→H):∃places,DataW.whole enc prog ((uJ os).forCall (λ_ _=>0) ⟨#[],#[(Value.agg (List.replicate 1 (.slice none 0 0:Value)++List.replicate 12 (.int .i64 0:Value)++List.replicate 3 (.slice none 0 0:Value)).toArray:Value)],[]⟩).memory Tryz.f3.params.toList Rows.roundMixesSpec.vars false (#[(Value.agg (List.replicate 1 (.slice none 0 0:Value)++List.replicate 12 (.int .i64 0:Value)++List.replicate 3 (.slice none 0 0:Value)).toArray:Value)]).toList 8=some ([.agg [.agg [.nil,.lit (.int .i64 0),.lit (.int .i64 0),.lit (.int .i64 0),.lit (.int .i64 0),.lit (.int .i64 0),.lit (.int .i64 0),.lit (.int .i64 0),.lit (.int .i64 0),.lit (.int .i64 0),.lit (.int .i64 0)],.agg [.lit (.int .i64 0),.agg [.lit (.int .i64 0),.nil]],.nil,.nil]],[],places):=⟨[],kr⟩
set_option maxRecDepth 100000 in
theorem lifted (law:XV) (os:Os) (started:os.Started) (H:Type) (enc:TypeId×Value→H) (F:Stop.Interp): ReturnsInHanded {} Tryz.checked os 3 .any ((Rows.OpenSpec.upto Rows.roundMixesSpec).preRow enc prog Tryz.f3 Rows.roundMixesUptoRow.domain false Rows.roundMixesUptoRow.laid) (((Rows.OpenSpec.upto Rows.roundMixesSpec).at F).post enc prog Tryz.f3 false true false false):=by obtain⟨places,hx⟩:=reads os enc;refine returnsInHanded_of_row (C:=Tryz.checked) (s:=Rows.OpenSpec.upto Rows.roundMixesSpec) own started kr func3 (witness_row_at (enc:=enc) (C:=Tryz.checked) false (uJ os) #[(Value.agg (List.replicate 1 (.slice none 0 0:Value)++List.replicate 12 (.int .i64 0:Value)++List.replicate 3 (.slice none 0 0:Value)).toArray:Value)] rfl kr kr kr (OpenSpec.preRow_of_cond 8 hx kr (λk hk=>by cases hk;kernel_rfl) kr (FI os))) ?_;intro W base args ds gs before hval hW _ hk _ hL _ _;exact Vi law H enc W base args ds gs before hval hW (hk _ rfl) hL
end DRoundMixes
end Go.Proofs.YtobbmodjdkcdcaaGreatDoor
