import Derived.Test.YtobbmodjdkcdcaaGreatDoorBp6
import Derived.ProofKit
import Derived.Deep.DeepHandedRow
import Derived.LaidMore
import Derived.Lib.LaidTab
set_option linter.unusedVariables false
set_option linter.unusedSimpArgs false
set_option maxRecDepth 20000
namespace Go.Proofs.YtobbmodjdkcdcaaGreatDoor
open Go Go.Sim Go.ChangeShapes Go.WideShapes Go.ChangeAt Go.RowKit
set_option linter.unusedSectionVars false
variable [Fu]
namespace DBackPlaces
def Law:Prop:=∀(x0:bL),fI x0→dv x0≤1048576→cQ x0=some true
theorem gTab : Tryz.prog.globalNamed "churn/hash.roots" = some 0 := by kernel_rfl
theorem vv:(Tryz.prog.globals[0]?).map (·.type)=some 319:=by kernel_rfl
theorem xz:Tryz.prog.cellsOf 319=64:=by kernel_rfl
theorem xF:Tryz.prog.cellsOf 142=1:=by kernel_rfl
theorem table {W : World} (h : laidMetH Tryz.prog Rows.backPlacesUptoRow.laid W) : Lib.TabIs Tryz.prog W "churn/hash.roots" .u32 glob0 :=
 Lib.tabIs_of_head (rest:=[]) gTab vv Tryz.underlying319 Tryz.underlying142 xF xz h
theorem ye {W:World} (h:laidMetH Tryz.prog Rows.backPlacesUptoRow.laid W):nO W:=⟨fun g k xs e=>by
 have ht:=table h
 unfold Lib.TabIs World.var? at ht
 rw[gTab] at ht
 simp only[Option.bind_some] at ht
 cases hb:Nat.beq 0 g with
 |false=>
  have e2:sC g sB=none:=by
    show cond (Nat.beq 0 g) _ _=_
    rw[hb];rfl
  rw[e2] at e;cases e
 |true=>
  obtain rfl:0=g:=Nat.eq_of_beq_eq_true hb
  have e2:sC 0 sB=some (.u32,glob0):=rfl
  rw[e2] at e
  cases e
  split at ht
  · rename_i cs t fr hh
    cases ht
    exact⟨_,_,hh⟩
  · cases ht⟩
theorem own:ownKnob Tryz.prog.godebug=none:=by kernel_rfl
theorem kids:Kids Tryz.prog (· <Tryz.prog.types.size):=kids_rows (by kernel_rfl) (by kernel_rfl)
theorem full:∀t e,t<Tryz.prog.types.size→Tryz.prog.underlying t=some (.slice e)→0<Tryz.prog.cellsOf e:=slices_full_of Tryz.prog (by kernel_rfl)
theorem blk (H:Type):Blk (Rows.uptoBulk (H:=H)) Rows.uptoBulkAll:=⟨by simp[Rows.uptoBulkAll],fun _ _=>by simp[Rows.uptoBulkAll],fun _ _=>by simp only[Rows.uptoBulk];omega,fun _=>by simp[Rows.uptoBulk],fun l=>by cases l<;>simp[Rows.uptoBulk],fun _=>by simp[Rows.uptoBulk],by simp[Rows.uptoBulk]⟩
theorem contract (law:Law) (H:Type) (enc:TypeId×Value→H) (W:World) (base:Nat) (args:Array Value) (ds gs:List (DataW H)) (before:List MemPlace)
  (hval:∀(j:Nat) t v,Tryz.f13.params[j]? =some t→args[j]? =some v→Value.okWide Tryz.prog W .any base t v)
  (hW:DataW.Whole enc Tryz.prog Tryz.f13.params.toList Rows.backPlacesSpec.vars false W args.toList ds gs before) (hk:Rows.uptoSmall H (ds++gs)=true) (hL:laidMetH Tryz.prog Rows.backPlacesUptoRow.laid W):
  Calls Tryz.prog 13 args W fun e W'=>∃v,e= .returned v∧Rows.backPlacesSpec.post enc Tryz.prog Tryz.f13 false true false false W args v W':=by
 have hW0:=hW
 haveI:nO W:=ye hL
 obtain⟨p,q,hA,hV,hpq,hz,hn⟩:=hW
 obtain⟨rfl,rfl⟩:=trodVars_none hV
 rw[show Tryz.f13.params.toList=[96] from by rw[Tryz.params13]] at hA
 rw[Tryz.params13] at hval
 obtain⟨v0,vs0,d0,ds0,p0,q0,ha0,hd0,_,t0,r0⟩:=trodAll_cons hA
 obtain⟨hvn,hdn,_⟩:=trodAll_nil r0
 subst hvn
 subst hdn
 subst hd0
 obtain rfl:args=#[v0]:=by cases args;simp_all
 obtain⟨n0,t0⟩:=t0
 obtain⟨x0,c0,g0,b0⟩:=rw96 (blk H) t0
 have k0:=Kd.val_of (K:=cL) kt96.agg (hval 0 96 v0 rfl rfl) c0
 dsimp only at b0
 have hb:=of_decide_eq_true hk
 simp only[Rows.uptoBulkAll,List.append_nil] at hb
 have hlaw:=law x0 g0 (by omega)
 refine vp hW0 rfl rfl (tb:=4) rfl Tryz.underlying4 kids full (by rw[Tryz.params13];decide) ?_
 exact o129 hlaw [] (FzOf W) W [v0] (by simp only[SV.oks,SV.ok];exact⟨k0,trivial⟩) (St.start W)
noncomputable def mU (os:Os):World:=
 {World.holding Tryz.prog os ⟨#[],#[],[]⟩ with heap:=(World.holding Tryz.prog os ⟨#[],#[],[]⟩).heap.modify 0 fun
  | .cells _ t frozen=> .cells (glob0.map (Value.int .u32 ·)).toArray t frozen
  |o=>o}
theorem vw (os:Os):laidMet Tryz.prog Rows.backPlacesUptoRow.laid ((mU os).forCall (fun _ _=>0) ⟨#[],#[(Value.agg (List.replicate 1 (.slice none 0 0:Value)++List.replicate 14 (.int .i64 0:Value)++List.replicate 3 (.slice none 0 0:Value)).toArray:Value)],[]⟩).memory:=
 laidMet_of_run' 8 (by kernel_rfl) (by kernel_rfl)
theorem reads (os:Os) {H:Type} (enc:TypeId×Value→H):∃places,DataW.whole enc Tryz.prog ((mU os).forCall (fun _ _=>0) ⟨#[],#[(Value.agg (List.replicate 1 (.slice none 0 0:Value)++List.replicate 14 (.int .i64 0:Value)++List.replicate 3 (.slice none 0 0:Value)).toArray:Value)],[]⟩).memory Tryz.f13.params.toList Rows.backPlacesSpec.vars false (#[(Value.agg (List.replicate 1 (.slice none 0 0:Value)++List.replicate 14 (.int .i64 0:Value)++List.replicate 3 (.slice none 0 0:Value)).toArray:Value)]).toList 8=some ([.agg [.agg [.nil,.lit (.int .i64 0),.lit (.int .i64 0),.lit (.int .i64 0),.lit (.int .i64 0),.lit (.int .i64 0),.lit (.int .i64 0),.lit (.int .i64 0),.lit (.int .i64 0),.lit (.int .i64 0),.lit (.int .i64 0)],.agg [.agg [.lit (.int .i64 0),.lit (.int .i64 0),.lit (.int .i64 0)],.lit (.int .i64 0),.nil,.nil],.nil]],[],places):=
 ⟨[],by kernel_rfl⟩
set_option maxRecDepth 100000 in
theorem lifted (law:Law) (os:Os) (started:os.Started) (H:Type) (enc:TypeId×Value→H) (F:Stop.Interp):
  ReturnsInHanded {} Tryz.checked os 13 .any ((Rows.OpenSpec.upto Rows.backPlacesSpec).preRow enc Tryz.prog Tryz.f13 Rows.backPlacesUptoRow.domain false Rows.backPlacesUptoRow.laid) (((Rows.OpenSpec.upto Rows.backPlacesSpec).at F).post enc Tryz.prog Tryz.f13 false true false false):=by
 obtain⟨places,hx⟩:=reads os enc
 refine returnsInHanded_of_row (C:=Tryz.checked) (s:=Rows.OpenSpec.upto Rows.backPlacesSpec) own started (by kernel_rfl) Tryz.func13
  (witness_row_at (enc:=enc) (C:=Tryz.checked) false (mU os) #[(Value.agg (List.replicate 1 (.slice none 0 0:Value)++List.replicate 14 (.int .i64 0:Value)++List.replicate 3 (.slice none 0 0:Value)).toArray:Value)] rfl (by kernel_rfl) (by kernel_rfl) (by kernel_rfl)
   (OpenSpec.preRow_of_cond 8 hx (by kernel_rfl) (fun k hk=>by cases hk;kernel_rfl) (by kernel_rfl) (vw os))) ?_
 intro W base args ds gs before hval hW _ hk _ hL _ _
 exact contract law H enc W base args ds gs before hval hW (hk _ rfl) hL
end DBackPlaces
end Go.Proofs.YtobbmodjdkcdcaaGreatDoor
