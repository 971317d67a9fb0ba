import Derived.Test.YtdkfkpbijdimkaaGreatDoorTh4
import Derived.ProofKit
import Derived.Deep.DeepHandedRow
import Derived.LaidMore
import Derived.Lib.LaidTab
set_option linter.unusedVariables false
set_option linter.unusedSimpArgs false
set_option maxRecDepth 20000
namespace Go.Proofs.YtdkfkpbijdimkaaGreatDoor
open Go Go.Sim Go.ChangeShapes Go.WideShapes Go.ChangeAt Go.RowKit
set_option linter.unusedSectionVars false
variable [Fu]
namespace DTalkHears
def Law:Prop:=∀(x0:az) (x1:List Int),c9 x0→(gSl (gInt .u8)) x1→bK x0+(bSl bOne) x1≤1048576→bb x0 x1=some true
theorem gTab : Tryz.prog.globalNamed "churn/hash.roots" = some 0 := by kernel_rfl
theorem nh:(Tryz.prog.globals[0]?).map (·.type)=some 295:=by kernel_rfl
theorem ot:Tryz.prog.cellsOf 295=64:=by kernel_rfl
theorem ou:Tryz.prog.cellsOf 118=1:=by kernel_rfl
theorem table {W : World} (h : laidMetH Tryz.prog Rows.talkHearsUptoRow.laid W) : Lib.TabIs Tryz.prog W "churn/hash.roots" .u32 glob0 :=
 Lib.tabIs_of_head (rest:=[]) gTab nh Tryz.underlying295 Tryz.underlying118 ou ot h
theorem oO {W:World} (h:laidMetH Tryz.prog Rows.talkHearsUptoRow.laid W):gZ W:=⟨fun g k xs e=>by
 have ht:=table h
 unfold Lib.TabIs World.var? at ht
 rw[gTab] at ht
 simp only[Option.bind_some] at ht
 cases hb:Nat.beq 0 g with
 |false=>
  have e2:kl g kj=none:=by
    show cond (Nat.beq 0 g) _ _=_
    rw[hb];rfl
  rw[e2] at e;cases e
 |true=>
  obtain rfl:0=g:=Nat.eq_of_beq_eq_true hb
  have e2:kl 0 kj=some (.u32,glob0):=rfl
  rw[e2] at e
  cases e
  split at ht
  · rename_i cs t fr hh
    cases ht
    exact⟨_,_,hh⟩
  · cases ht⟩
theorem own:ownKnob Tryz.prog.godebug=none:=by kernel_rfl
theorem kids:Kids Tryz.prog (· <Tryz.prog.types.size):=kids_rows (by kernel_rfl) (by kernel_rfl)
theorem full:∀t e,t<Tryz.prog.types.size→Tryz.prog.underlying t=some (.slice e)→0<Tryz.prog.cellsOf e:=slices_full_of Tryz.prog (by kernel_rfl)
theorem blk (H:Type):Blk (Rows.uptoBulk (H:=H)) Rows.uptoBulkAll:=⟨by simp[Rows.uptoBulkAll],fun _ _=>by simp[Rows.uptoBulkAll],fun _ _=>by simp only[Rows.uptoBulk];omega,fun _=>by simp[Rows.uptoBulk],fun l=>by cases l<;>simp[Rows.uptoBulk],fun _=>by simp[Rows.uptoBulk],by simp[Rows.uptoBulk]⟩
theorem contract (law:Law) (H:Type) (enc:TypeId×Value→H) (W:World) (base:Nat) (args:Array Value) (ds gs:List (DataW H)) (before:List MemPlace)
  (hval:∀(j:Nat) t v,Tryz.f6.params[j]? =some t→args[j]? =some v→Value.okWide Tryz.prog W .any base t v)
  (hW:DataW.Whole enc Tryz.prog Tryz.f6.params.toList Rows.talkHearsSpec.vars false W args.toList ds gs before) (hk:Rows.uptoSmall H (ds++gs)=true) (hL:laidMetH Tryz.prog Rows.talkHearsUptoRow.laid W):
  Calls Tryz.prog 6 args W fun e W'=>∃v,e= .returned v∧Rows.talkHearsSpec.post enc Tryz.prog Tryz.f6 false true false false W args v W':=by
 have hW0:=hW
 haveI:gZ W:=oO hL
 obtain⟨p,q,hA,hV,hpq,hz,hn⟩:=hW
 obtain⟨rfl,rfl⟩:=trodVars_none hV
 rw[show Tryz.f6.params.toList=[46,24] from by rw[Tryz.params6]] at hA
 rw[Tryz.params6] at hval
 obtain⟨v0,vs0,d0,ds0,p0,q0,ha0,hd0,_,t0,r0⟩:=trodAll_cons hA
 obtain⟨v1,vs1,d1,ds1,p1,q1,ha1,hd1,_,t1,r1⟩:=trodAll_cons r0
 obtain⟨hvn,hdn,_⟩:=trodAll_nil r1
 subst hvn
 subst hdn
 subst ha1
 subst hd1
 subst hd0
 obtain rfl:args=#[v0,v1]:=by cases args;simp_all
 obtain⟨n0,t0⟩:=t0
 obtain⟨x0,c0,g0,b0⟩:=rw46 (blk H) t0
 have k0:=Kd.val_of (K:=bY) kt46.agg (hval 0 46 v0 rfl rfl) c0
 obtain⟨n1,t1⟩:=t1
 obtain⟨x1,c1,g1,b1⟩:=rw24 (blk H) t1
 have k1:=Kd.val_of (K:=kSl (kInt .u8)) kt24.agg (hval 1 24 v1 rfl rfl) c1
 dsimp only at b0 b1
 have hb:=of_decide_eq_true hk
 simp only[Rows.uptoBulkAll,List.append_nil] at hb
 have hlaw:=law x0 x1 g0 g1 (by omega)
 refine me hW0 rfl rfl (tb:=4) rfl Tryz.underlying4 kids full (by rw[Tryz.params6];decide) ?_
 exact o91 hlaw [] (FzOf W) W [v0,v1] (by simp only[SV.oks,SV.ok];exact⟨k0,k1,trivial⟩) (St.start W)
noncomputable def gQ (os:Os):World:=
 {World.holding Tryz.prog os ⟨#[],#[],[]⟩ with heap:=(World.holding Tryz.prog os ⟨#[],#[],[]⟩).heap.modify 0 fun
  | .cells _ t frozen=> .cells (glob0.map (Value.int .u32 ·)).toArray t frozen
  |o=>o}
theorem ni (os:Os):laidMet Tryz.prog Rows.talkHearsUptoRow.laid ((gQ os).forCall (fun _ _=>0) ⟨#[],#[(Value.agg #[.slice none 0 0,.int .i64 0,.slice none 0 0,.int .u8 0,.int .u8 0,.int .u8 0,.int .u8 0,.int .u8 0,.int .u8 0,.int .u8 0,.int .u8 0,.slice none 0 0]:Value),(.slice none 0 0:Value)],[]⟩).memory:=
 laidMet_of_run' 8 (by kernel_rfl) (by kernel_rfl)
theorem reads (os:Os) {H:Type} (enc:TypeId×Value→H):∃places,DataW.whole enc Tryz.prog ((gQ os).forCall (fun _ _=>0) ⟨#[],#[(Value.agg #[.slice none 0 0,.int .i64 0,.slice none 0 0,.int .u8 0,.int .u8 0,.int .u8 0,.int .u8 0,.int .u8 0,.int .u8 0,.int .u8 0,.int .u8 0,.slice none 0 0]:Value),(.slice none 0 0:Value)],[]⟩).memory Tryz.f6.params.toList Rows.talkHearsSpec.vars false (#[(Value.agg #[.slice none 0 0,.int .i64 0,.slice none 0 0,.int .u8 0,.int .u8 0,.int .u8 0,.int .u8 0,.int .u8 0,.int .u8 0,.int .u8 0,.int .u8 0,.slice none 0 0]:Value),(.slice none 0 0:Value)]).toList 8=some ([.agg [.nil,.lit (.int .i64 0),.nil,.agg (List.replicate 8 (.lit (.int .u8 0))),.nil],.nil],[],places):=
 ⟨[],by kernel_rfl⟩
set_option maxRecDepth 100000 in
theorem lifted (law:Law) (os:Os) (started:os.Started) (H:Type) (enc:TypeId×Value→H) (F:Stop.Interp):
  ReturnsInHanded {} Tryz.checked os 6 .any ((Rows.OpenSpec.upto Rows.talkHearsSpec).preRow enc Tryz.prog Tryz.f6 Rows.talkHearsUptoRow.domain false Rows.talkHearsUptoRow.laid) (((Rows.OpenSpec.upto Rows.talkHearsSpec).at F).post enc Tryz.prog Tryz.f6 false true false false):=by
 obtain⟨places,hx⟩:=reads os enc
 refine returnsInHanded_of_row (C:=Tryz.checked) (s:=Rows.OpenSpec.upto Rows.talkHearsSpec) own started (by kernel_rfl) Tryz.func6
  (witness_row_at (enc:=enc) (C:=Tryz.checked) false (gQ os) #[(Value.agg #[.slice none 0 0,.int .i64 0,.slice none 0 0,.int .u8 0,.int .u8 0,.int .u8 0,.int .u8 0,.int .u8 0,.int .u8 0,.int .u8 0,.int .u8 0,.slice none 0 0]:Value),(.slice none 0 0:Value)] rfl (by kernel_rfl) (by kernel_rfl) (by kernel_rfl)
   (OpenSpec.preRow_of_cond 8 hx (by kernel_rfl) (fun k hk=>by cases hk;kernel_rfl) (by kernel_rfl) (ni os))) ?_
 intro W base args ds gs before hval hW _ hk _ hL _ _
 exact contract law H enc W base args ds gs before hval hW (hk _ rfl) hL
end DTalkHears
end Go.Proofs.YtdkfkpbijdimkaaGreatDoor
