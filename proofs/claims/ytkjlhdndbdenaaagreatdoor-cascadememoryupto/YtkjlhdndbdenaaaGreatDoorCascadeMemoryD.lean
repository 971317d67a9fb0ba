import Derived.Test.YtkjlhdndbdenaaaGreatDoorCm5
import Derived.ProofKit
import Derived.Deep.DeepHandedRow
import Derived.LaidMore
import Derived.Lib.LaidTab
set_option autoImplicit true
set_option relaxedAutoImplicit true
set_option linter.all false
set_option maxRecDepth 20000
namespace Go.Proofs.YtkjlhdndbdenaaaGreatDoor
open Go Go.Sim Go.ChangeShapes Go.WideShapes Go.ChangeAt Go.RowKit Go.Proofs.Tryz
variable [Fu]
namespace DCascadeMemory
def Ez:Prop:=∀(a:bf) (b:List (List Int)),fp a→(x8 (x8 (pH .u8))) b→fq a+(z3 (z3 q4)) b≤1048576→bQ a b=some true
theorem D8 : prog.globalNamed "churn/hash.roots" = some 0 := kr
theorem sC:(prog.globals[0]?).map (·.type)=some 193:=kr
theorem vh:prog.cellsOf 193=64:=kr
theorem vi:prog.cellsOf 93=1:=kr
theorem pI (h : laidMetH prog Rows.cascadeMemoryUptoRow.laid W): Lib.TabIs prog W "churn/hash.roots" .u32 kH :=
 Lib.tabIs_of_head (rest:=[]) D8 sC mE DF vi vh h
theorem vO (h:laidMetH prog Rows.cascadeMemoryUptoRow.laid W):la W:=⟨λg k xs e=>by have ht:=pI h;unfold Lib.TabIs World.var? at ht;rw[D8] at ht;simp only[Option.bind_some] at ht;cases hb:Nat.beq 0 g with|false=>(have e2:py g px=none:=by show cond (Nat.beq 0 g) _ _=_;rw[hb];rfl);rw[e2] at e;cases e|true=>obtain rfl:0=g:=wW hb;have e2:py 0 px=some (.u32,kH):=rfl;rw[e2] at e;cases e;split at ht;rename_i cs t fr hh;cases ht;exact⟨_,_,hh⟩;cases ht⟩
theorem own:ownKnob prog.godebug=none:=kr
theorem ES:Kids prog (· <prog.types.size):=kids_rows kr kr
theorem full:∀t e,t<prog.types.size→prog.underlying t=some (.slice e)→0<prog.cellsOf e:=slices_full_of prog kr
theorem blk (H:Type):Eg (Rows.uptoBulk (H:=H)) Rows.uptoBulkAll:=⟨by simp[Rows.uptoBulkAll],λ_ _=>by simp[Rows.uptoBulkAll],λ_ _=>by simp only[Rows.uptoBulk];omega,λ_=>by simp[Rows.uptoBulk],λl=>by cases l<;>simp[Rows.uptoBulk],λ_=>by simp[Rows.uptoBulk],by simp[Rows.uptoBulk]⟩
theorem y4 (law:Ez) (H:Type) (enc:TypeId×Value→H) (W:World) (base:Nat) (args:Array Value) (ds gs:List (DataW H)) (before:List MemPlace) (hval:∀(j:Nat) t v,Tryz.f3.params[j]? =some t→args[j]? =some v→Value.okWide prog W .any base t v) (hW:DataW.Whole enc prog Tryz.f3.params.toList Rows.cascadeMemorySpec.vars false W args.toList ds gs before) (hk:Rows.uptoSmall H (ds++gs)=true) (hL:laidMetH prog Rows.cascadeMemoryUptoRow.laid W): Calls prog 3 args W λe W'=>∃v,e= .returned v∧Rows.cascadeMemorySpec.post enc prog Tryz.f3 false true false false W args v W':=by have hW0:=hW;haveI:la W:=vO hL;obtain⟨p,q,hA,hV,hpq,hz,hn⟩:=hW;obtain⟨rfl,rfl⟩:=trodVars_none hV;rw[show Tryz.f3.params.toList=[26,22] from by rw[Tryz.params3]] at hA;rw[Tryz.params3] at hval;obtain⟨v0,vs0,d0,ds0,p0,q0,ha0,hd0,_,t0,r0⟩:=trodAll_cons hA;obtain⟨v1,vs1,d1,ds1,p1,q1,ha1,hd1,_,t1,r1⟩:=trodAll_cons r0;obtain⟨hvn,hdn,_⟩:=trodAll_nil r1;subst hvn;subst hdn;subst ha1;subst hd1;subst hd0;(obtain rfl:args=#[v0,v1]:=by cases args;simp_all);obtain⟨n0,t0⟩:=t0;obtain⟨x0,c0,g0,b0⟩:=Fh (blk H) t0;have k0:=By (K:=bt) Fa.agg (hval 0 26 v0 rfl rfl) c0;obtain⟨n1,t1⟩:=t1;obtain⟨x1,c1,g1,b1⟩:=D6 (blk H) t1;have k1:=By (K:=cI (cI (bB .u8))) qC.agg (hval 1 22 v1 rfl rfl) c1;dsimp only at b0 b1;have hb:=wj hk;simp only[Rows.uptoBulkAll,yY] at hb;have hlaw:=law x0 x1 g0 g1 (by omega);exact sx hW0 rfl rfl (tb:=4) rfl underlying4 ES full (by rw[Tryz.params3];decide)<|Fj hlaw [] (tR W) W [v0,v1] (by simp only[SV.oks,SV.ok];exact⟨k0,k1,trivial⟩) (St.start W)
noncomputable def km (a:Os):World:={World.holding prog a ⟨#[],#[],[]⟩ with heap:=(World.holding prog a ⟨#[],#[],[]⟩).heap.modify 0 fun| .cells _ t frozen=> .cells (kH.map (Value.int .u32 ·)).toArray t frozen|o=>o}
theorem sD (a:Os):laidMet prog Rows.cascadeMemoryUptoRow.laid ((km a).forCall (λ_ _=>0) ⟨#[],#[(Value.agg #[.slice none 0 0,.int .i64 0,.slice none 0 0,.slice none 0 0]:Value),(.slice none 0 0:Value)],[]⟩).memory:=laidMet_of_run' 8 kr kr
theorem reads (a:Os) (enc:TypeId×Value→H):∃b,DataW.whole enc prog ((km a).forCall (λ_ _=>0) ⟨#[],#[(Value.agg #[.slice none 0 0,.int .i64 0,.slice none 0 0,.slice none 0 0]:Value),(.slice none 0 0:Value)],[]⟩).memory Tryz.f3.params.toList Rows.cascadeMemorySpec.vars false (#[(Value.agg #[.slice none 0 0,.int .i64 0,.slice none 0 0,.slice none 0 0]:Value),(.slice none 0 0:Value)]).toList 8=some ([.agg [.nil,.lit (.int .i64 0),.nil,.nil],.nil],[],b):=⟨[],kr⟩
set_option maxRecDepth 100000 in
theorem DM (law:Ez) (os:Os) (started:os.Started) (H:Type) (enc:TypeId×Value→H) (F:Stop.Interp): ReturnsInHanded {} Tryz.checked os 3 .any ((Rows.OpenSpec.upto Rows.cascadeMemorySpec).preRow enc prog Tryz.f3 Rows.cascadeMemoryUptoRow.domain false Rows.cascadeMemoryUptoRow.laid) (((Rows.OpenSpec.upto Rows.cascadeMemorySpec).at F).post enc prog Tryz.f3 false true false false):=by obtain⟨places,hx⟩:=reads os enc;refine returnsInHanded_of_row (C:=Tryz.checked) (s:=Rows.OpenSpec.upto Rows.cascadeMemorySpec) own started kr func3 (witness_row_at (enc:=enc) (C:=Tryz.checked) false (km os) #[(Value.agg #[.slice none 0 0,.int .i64 0,.slice none 0 0,.slice none 0 0]:Value),(.slice none 0 0:Value)] rfl kr kr kr (OpenSpec.preRow_of_cond 8 hx kr (λk hk=>by cases hk;kernel_rfl) kr (sD os))) ?_;intro W base args ds gs before hval hW _ hk _ hL _ _;exact y4 law H enc W base args ds gs before hval hW (hk _ rfl) hL
end DCascadeMemory
end Go.Proofs.YtkjlhdndbdenaaaGreatDoor
