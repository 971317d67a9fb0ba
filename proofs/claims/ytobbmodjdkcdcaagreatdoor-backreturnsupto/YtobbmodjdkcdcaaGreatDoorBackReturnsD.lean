import Derived.Test.YtobbmodjdkcdcaaGreatDoorBr7
import Derived.ProofKit
import Derived.Deep.DeepHandedRow
import Derived.LaidMore
import Derived.Lib.LaidTab
set_option linter.unusedVariables false
set_option linter.unusedSimpArgs false
set_option maxRecDepth 20000
namespace Go.Proofs.YtobbmodjdkcdcaaGreatDoor
open Go Go.Sim Go.ChangeShapes Go.WideShapes Go.ChangeAt Go.RowKit
set_option linter.unusedSectionVars false
variable [Fu]
namespace DBackReturns
def Law:Prop:=∀(x0:cg),ii x0→eh x0≤1048576→cV x0=some true
theorem gTab : Tryz.prog.globalNamed "churn/hash.roots" = some 0 := by kernel_rfl
theorem yf:(Tryz.prog.globals[0]?).map (·.type)=some 319:=by kernel_rfl
theorem AA:Tryz.prog.cellsOf 319=64:=by kernel_rfl
theorem AB:Tryz.prog.cellsOf 142=1:=by kernel_rfl
theorem table {W : World} (h : laidMetH Tryz.prog Rows.backReturnsUptoRow.laid W) : Lib.TabIs Tryz.prog W "churn/hash.roots" .u32 glob0 :=
 Lib.tabIs_of_head (rest:=[]) gTab yf Tryz.underlying319 Tryz.underlying142 AB AA h
theorem AW {W:World} (h:laidMetH Tryz.prog Rows.backReturnsUptoRow.laid W):qk W:=⟨fun g k xs e=>by
 have ht:=table h
 unfold Lib.TabIs World.var? at ht
 rw[gTab] at ht
 simp only[Option.bind_some] at ht
 cases hb:Nat.beq 0 g with
 |false=>
  have e2:vl g vk=none:=by
    show cond (Nat.beq 0 g) _ _=_
    rw[hb];rfl
  rw[e2] at e;cases e
 |true=>
  obtain rfl:0=g:=Nat.eq_of_beq_eq_true hb
  have e2:vl 0 vk=some (.u32,glob0):=rfl
  rw[e2] at e
  cases e
  split at ht
  · rename_i cs t fr hh
    cases ht
    exact⟨_,_,hh⟩
  · cases ht⟩
theorem own:ownKnob Tryz.prog.godebug=none:=by kernel_rfl
theorem kids:Kids Tryz.prog (· <Tryz.prog.types.size):=kids_rows (by kernel_rfl) (by kernel_rfl)
theorem full:∀t e,t<Tryz.prog.types.size→Tryz.prog.underlying t=some (.slice e)→0<Tryz.prog.cellsOf e:=slices_full_of Tryz.prog (by kernel_rfl)
theorem blk (H:Type):Blk (Rows.uptoBulk (H:=H)) Rows.uptoBulkAll:=⟨by simp[Rows.uptoBulkAll],fun _ _=>by simp[Rows.uptoBulkAll],fun _ _=>by simp only[Rows.uptoBulk];omega,fun _=>by simp[Rows.uptoBulk],fun l=>by cases l<;>simp[Rows.uptoBulk],fun _=>by simp[Rows.uptoBulk],by simp[Rows.uptoBulk]⟩
theorem contract (law:Law) (H:Type) (enc:TypeId×Value→H) (W:World) (base:Nat) (args:Array Value) (ds gs:List (DataW H)) (before:List MemPlace)
  (hval:∀(j:Nat) t v,Tryz.f11.params[j]? =some t→args[j]? =some v→Value.okWide Tryz.prog W .any base t v)
  (hW:DataW.Whole enc Tryz.prog Tryz.f11.params.toList Rows.backReturnsSpec.vars false W args.toList ds gs before) (hk:Rows.uptoSmall H (ds++gs)=true) (hL:laidMetH Tryz.prog Rows.backReturnsUptoRow.laid W):
  Calls Tryz.prog 11 args W fun e W'=>∃v,e= .returned v∧Rows.backReturnsSpec.post enc Tryz.prog Tryz.f11 false true false false W args v W':=by
 have hW0:=hW
 haveI:qk W:=AW hL
 obtain⟨p,q,hA,hV,hpq,hz,hn⟩:=hW
 obtain⟨rfl,rfl⟩:=trodVars_none hV
 rw[show Tryz.f11.params.toList=[96] from by rw[Tryz.params11]] at hA
 rw[Tryz.params11] at hval
 obtain⟨v0,vs0,d0,ds0,p0,q0,ha0,hd0,_,t0,r0⟩:=trodAll_cons hA
 obtain⟨hvn,hdn,_⟩:=trodAll_nil r0
 subst hvn
 subst hdn
 subst hd0
 obtain rfl:args=#[v0]:=by cases args;simp_all
 obtain⟨n0,t0⟩:=t0
 obtain⟨x0,c0,g0,b0⟩:=rw96 (blk H) t0
 have k0:=Kd.val_of (K:=eS) kt96.agg (hval 0 96 v0 rfl rfl) c0
 dsimp only at b0
 have hb:=of_decide_eq_true hk
 simp only[Rows.uptoBulkAll,List.append_nil] at hb
 have hlaw:=law x0 g0 (by omega)
 refine ya hW0 rfl rfl (tb:=4) rfl Tryz.underlying4 kids full (by rw[Tryz.params11];decide) ?_
 exact o163 hlaw [] (FzOf W) W [v0] (by simp only[SV.oks,SV.ok];exact⟨k0,trivial⟩) (St.start W)
noncomputable def pt (os:Os):World:=
 {World.holding Tryz.prog os ⟨#[],#[],[]⟩ with heap:=(World.holding Tryz.prog os ⟨#[],#[],[]⟩).heap.modify 0 fun
  | .cells _ t frozen=> .cells (glob0.map (Value.int .u32 ·)).toArray t frozen
  |o=>o}
theorem yg (os:Os):laidMet Tryz.prog Rows.backReturnsUptoRow.laid ((pt os).forCall (fun _ _=>0) ⟨#[],#[(Value.agg (List.replicate 1 (.slice none 0 0:Value)++List.replicate 14 (.int .i64 0:Value)++List.replicate 3 (.slice none 0 0:Value)).toArray:Value)],[]⟩).memory:=
 laidMet_of_run' 8 (by kernel_rfl) (by kernel_rfl)
theorem reads (os:Os) {H:Type} (enc:TypeId×Value→H):∃places,DataW.whole enc Tryz.prog ((pt os).forCall (fun _ _=>0) ⟨#[],#[(Value.agg (List.replicate 1 (.slice none 0 0:Value)++List.replicate 14 (.int .i64 0:Value)++List.replicate 3 (.slice none 0 0:Value)).toArray:Value)],[]⟩).memory Tryz.f11.params.toList Rows.backReturnsSpec.vars false (#[(Value.agg (List.replicate 1 (.slice none 0 0:Value)++List.replicate 14 (.int .i64 0:Value)++List.replicate 3 (.slice none 0 0:Value)).toArray:Value)]).toList 8=some ([.agg [.agg [.nil,.lit (.int .i64 0),.lit (.int .i64 0),.lit (.int .i64 0),.lit (.int .i64 0),.lit (.int .i64 0),.lit (.int .i64 0),.lit (.int .i64 0),.lit (.int .i64 0),.lit (.int .i64 0),.lit (.int .i64 0)],.agg [.agg [.lit (.int .i64 0),.lit (.int .i64 0),.lit (.int .i64 0)],.lit (.int .i64 0),.nil,.nil],.nil]],[],places):=
 ⟨[],by kernel_rfl⟩
set_option maxRecDepth 100000 in
theorem lifted (law:Law) (os:Os) (started:os.Started) (H:Type) (enc:TypeId×Value→H) (F:Stop.Interp):
  ReturnsInHanded {} Tryz.checked os 11 .any ((Rows.OpenSpec.upto Rows.backReturnsSpec).preRow enc Tryz.prog Tryz.f11 Rows.backReturnsUptoRow.domain false Rows.backReturnsUptoRow.laid) (((Rows.OpenSpec.upto Rows.backReturnsSpec).at F).post enc Tryz.prog Tryz.f11 false true false false):=by
 obtain⟨places,hx⟩:=reads os enc
 refine returnsInHanded_of_row (C:=Tryz.checked) (s:=Rows.OpenSpec.upto Rows.backReturnsSpec) own started (by kernel_rfl) Tryz.func11
  (witness_row_at (enc:=enc) (C:=Tryz.checked) false (pt os) #[(Value.agg (List.replicate 1 (.slice none 0 0:Value)++List.replicate 14 (.int .i64 0:Value)++List.replicate 3 (.slice none 0 0:Value)).toArray:Value)] rfl (by kernel_rfl) (by kernel_rfl) (by kernel_rfl)
   (OpenSpec.preRow_of_cond 8 hx (by kernel_rfl) (fun k hk=>by cases hk;kernel_rfl) (by kernel_rfl) (yg os))) ?_
 intro W base args ds gs before hval hW _ hk _ hL _ _
 exact contract law H enc W base args ds gs before hval hW (hk _ rfl) hL
end DBackReturns
end Go.Proofs.YtobbmodjdkcdcaaGreatDoor
