import Derived.Test.YtdkfkpbijdimkaaGreatDoorCs4
import Derived.ProofKit
import Derived.Deep.DeepHandedRow
import Derived.LaidMore
import Derived.Lib.LaidTab
set_option linter.unusedVariables false
set_option linter.unusedSimpArgs false
set_option maxRecDepth 20000
namespace Go.Proofs.YtdkfkpbijdimkaaGreatDoor
open Go Go.Sim Go.ChangeShapes Go.WideShapes Go.ChangeAt Go.RowKit
set_option linter.unusedSectionVars false
variable [Fu]
namespace DCascadeSubmits
def Law:Prop:=∀(x0:aE),c9 x0→bT x0≤1048576→aS x0=some true
theorem gTab : Tryz.prog.globalNamed "churn/hash.roots" = some 0 := by kernel_rfl
theorem l6:(Tryz.prog.globals[0]?).map (·.type)=some 295:=by kernel_rfl
theorem nV:Tryz.prog.cellsOf 295=64:=by kernel_rfl
theorem nW:Tryz.prog.cellsOf 118=1:=by kernel_rfl
theorem table {W : World} (h : laidMetH Tryz.prog Rows.cascadeSubmitsUptoRow.laid W) : Lib.TabIs Tryz.prog W "churn/hash.roots" .u32 glob0 :=
 Lib.tabIs_of_head (rest:=[]) gTab l6 Tryz.underlying295 Tryz.underlying118 nW nV h
theorem og {W:World} (h:laidMetH Tryz.prog Rows.cascadeSubmitsUptoRow.laid W):hP W:=⟨fun g k xs e=>by
 have ht:=table h
 unfold Lib.TabIs World.var? at ht
 rw[gTab] at ht
 simp only[Option.bind_some] at ht
 cases hb:Nat.beq 0 g with
 |false=>
  have e2:ko g kn=none:=by
    show cond (Nat.beq 0 g) _ _=_
    rw[hb];rfl
  rw[e2] at e;cases e
 |true=>
  obtain rfl:0=g:=Nat.eq_of_beq_eq_true hb
  have e2:ko 0 kn=some (.u32,glob0):=rfl
  rw[e2] at e
  cases e
  split at ht
  · rename_i cs t fr hh
    cases ht
    exact⟨_,_,hh⟩
  · cases ht⟩
theorem own:ownKnob Tryz.prog.godebug=none:=by kernel_rfl
theorem kids:Kids Tryz.prog (· <Tryz.prog.types.size):=kids_rows (by kernel_rfl) (by kernel_rfl)
theorem full:∀t e,t<Tryz.prog.types.size→Tryz.prog.underlying t=some (.slice e)→0<Tryz.prog.cellsOf e:=slices_full_of Tryz.prog (by kernel_rfl)
theorem blk (H:Type):Blk (Rows.uptoBulk (H:=H)) Rows.uptoBulkAll:=⟨by simp[Rows.uptoBulkAll],fun _ _=>by simp[Rows.uptoBulkAll],fun _ _=>by simp only[Rows.uptoBulk];omega,fun _=>by simp[Rows.uptoBulk],fun l=>by cases l<;>simp[Rows.uptoBulk],fun _=>by simp[Rows.uptoBulk],by simp[Rows.uptoBulk]⟩
theorem contract (law:Law) (H:Type) (enc:TypeId×Value→H) (W:World) (base:Nat) (args:Array Value) (ds gs:List (DataW H)) (before:List MemPlace)
  (hval:∀(j:Nat) t v,Tryz.f3.params[j]? =some t→args[j]? =some v→Value.okWide Tryz.prog W .any base t v)
  (hW:DataW.Whole enc Tryz.prog Tryz.f3.params.toList Rows.cascadeSubmitsSpec.vars false W args.toList ds gs before) (hk:Rows.uptoSmall H (ds++gs)=true) (hL:laidMetH Tryz.prog Rows.cascadeSubmitsUptoRow.laid W):
  Calls Tryz.prog 3 args W fun e W'=>∃v,e= .returned v∧Rows.cascadeSubmitsSpec.post enc Tryz.prog Tryz.f3 false true false false W args v W':=by
 have hW0:=hW
 haveI:hP W:=og hL
 obtain⟨p,q,hA,hV,hpq,hz,hn⟩:=hW
 obtain⟨rfl,rfl⟩:=trodVars_none hV
 rw[show Tryz.f3.params.toList=[26] from by rw[Tryz.params3]] at hA
 rw[Tryz.params3] at hval
 obtain⟨v0,vs0,d0,ds0,p0,q0,ha0,hd0,_,t0,r0⟩:=trodAll_cons hA
 obtain⟨hvn,hdn,_⟩:=trodAll_nil r0
 subst hvn
 subst hdn
 subst hd0
 obtain rfl:args=#[v0]:=by cases args;simp_all
 obtain⟨n0,t0⟩:=t0
 obtain⟨x0,c0,g0,b0⟩:=rw26 (blk H) t0
 have k0:=Kd.val_of (K:=cc) kt26.agg (hval 0 26 v0 rfl rfl) c0
 dsimp only at b0
 have hb:=of_decide_eq_true hk
 simp only[Rows.uptoBulkAll,List.append_nil] at hb
 have hlaw:=law x0 g0 (by omega)
 refine l5 hW0 rfl rfl (tb:=4) rfl Tryz.underlying4 kids full (by rw[Tryz.params3];decide) ?_
 exact o83 hlaw [] (FzOf W) W [v0] (by simp only[SV.oks,SV.ok];exact⟨k0,trivial⟩) (St.start W)
noncomputable def gI (os:Os):World:=
 {World.holding Tryz.prog os ⟨#[],#[],[]⟩ with heap:=(World.holding Tryz.prog os ⟨#[],#[],[]⟩).heap.modify 0 fun
  | .cells _ t frozen=> .cells (glob0.map (Value.int .u32 ·)).toArray t frozen
  |o=>o}
theorem l7 (os:Os):laidMet Tryz.prog Rows.cascadeSubmitsUptoRow.laid ((gI os).forCall (fun _ _=>0) ⟨#[],#[(Value.agg #[.slice none 0 0,.int .i64 0,.slice none 0 0,.slice none 0 0]:Value)],[]⟩).memory:=
 laidMet_of_run' 8 (by kernel_rfl) (by kernel_rfl)
theorem reads (os:Os) {H:Type} (enc:TypeId×Value→H):∃places,DataW.whole enc Tryz.prog ((gI os).forCall (fun _ _=>0) ⟨#[],#[(Value.agg #[.slice none 0 0,.int .i64 0,.slice none 0 0,.slice none 0 0]:Value)],[]⟩).memory Tryz.f3.params.toList Rows.cascadeSubmitsSpec.vars false (#[(Value.agg #[.slice none 0 0,.int .i64 0,.slice none 0 0,.slice none 0 0]:Value)]).toList 8=some ([.agg [.nil,.lit (.int .i64 0),.nil,.nil]],[],places):=
 ⟨[],by kernel_rfl⟩
set_option maxRecDepth 100000 in
theorem lifted (law:Law) (os:Os) (started:os.Started) (H:Type) (enc:TypeId×Value→H) (F:Stop.Interp):
  ReturnsInHanded {} Tryz.checked os 3 .any ((Rows.OpenSpec.upto Rows.cascadeSubmitsSpec).preRow enc Tryz.prog Tryz.f3 Rows.cascadeSubmitsUptoRow.domain false Rows.cascadeSubmitsUptoRow.laid) (((Rows.OpenSpec.upto Rows.cascadeSubmitsSpec).at F).post enc Tryz.prog Tryz.f3 false true false false):=by
 obtain⟨places,hx⟩:=reads os enc
 refine returnsInHanded_of_row (C:=Tryz.checked) (s:=Rows.OpenSpec.upto Rows.cascadeSubmitsSpec) own started (by kernel_rfl) Tryz.func3
  (witness_row_at (enc:=enc) (C:=Tryz.checked) false (gI os) #[(Value.agg #[.slice none 0 0,.int .i64 0,.slice none 0 0,.slice none 0 0]:Value)] rfl (by kernel_rfl) (by kernel_rfl) (by kernel_rfl)
   (OpenSpec.preRow_of_cond 8 hx (by kernel_rfl) (fun k hk=>by cases hk;kernel_rfl) (by kernel_rfl) (l7 os))) ?_
 intro W base args ds gs before hval hW _ hk _ hL _ _
 exact contract law H enc W base args ds gs before hval hW (hk _ rfl) hL
end DCascadeSubmits
end Go.Proofs.YtdkfkpbijdimkaaGreatDoor
