import Derived.Test.YtdkfkpbijdimkaaGreatDoorCe3
import Derived.ProofKit
import Derived.Deep.DeepHandedRow
import Derived.LaidMore
import Derived.Lib.LaidTab
set_option linter.unusedVariables false
set_option linter.unusedSimpArgs false
set_option maxRecDepth 20000
namespace Go.Proofs.YtdkfkpbijdimkaaGreatDoor
open Go Go.Sim Go.ChangeShapes Go.WideShapes Go.ChangeAt Go.RowKit
set_option linter.unusedSectionVars false
variable [Fu]
namespace DCascadeEntries
def Law:Prop:=∀(x0:ae) (x1:List (List Int)) (x2:List Int),eY x0→(gSl (gSl (gInt .u8))) x1→(gSl (gInt .u8)) x2→dY x0+(bSl (bSl bOne)) x1+(bSl bOne) x2≤1048576→aL x0 x1 x2=some true
theorem gTab : Tryz.prog.globalNamed "churn/hash.roots" = some 0 := by kernel_rfl
theorem lF:(Tryz.prog.globals[0]?).map (·.type)=some 295:=by kernel_rfl
theorem mJ:Tryz.prog.cellsOf 295=64:=by kernel_rfl
theorem mK:Tryz.prog.cellsOf 118=1:=by kernel_rfl
theorem table {W : World} (h : laidMetH Tryz.prog Rows.cascadeEntriesUptoRow.laid W) : Lib.TabIs Tryz.prog W "churn/hash.roots" .u32 glob0 :=
 Lib.tabIs_of_head (rest:=[]) gTab lF Tryz.underlying295 Tryz.underlying118 mK mJ h
theorem mT {W:World} (h:laidMetH Tryz.prog Rows.cascadeEntriesUptoRow.laid W):hP W:=⟨fun g k xs e=>by
 have ht:=table h
 unfold Lib.TabIs World.var? at ht
 rw[gTab] at ht
 simp only[Option.bind_some] at ht
 cases hb:Nat.beq 0 g with
 |false=>
  have e2:kc g kb=none:=by
    show cond (Nat.beq 0 g) _ _=_
    rw[hb];rfl
  rw[e2] at e;cases e
 |true=>
  obtain rfl:0=g:=Nat.eq_of_beq_eq_true hb
  have e2:kc 0 kb=some (.u32,glob0):=rfl
  rw[e2] at e
  cases e
  split at ht
  · rename_i cs t fr hh
    cases ht
    exact⟨_,_,hh⟩
  · cases ht⟩
theorem own:ownKnob Tryz.prog.godebug=none:=by kernel_rfl
theorem kids:Kids Tryz.prog (· <Tryz.prog.types.size):=kids_rows (by kernel_rfl) (by kernel_rfl)
theorem full:∀t e,t<Tryz.prog.types.size→Tryz.prog.underlying t=some (.slice e)→0<Tryz.prog.cellsOf e:=slices_full_of Tryz.prog (by kernel_rfl)
theorem blk (H:Type):Blk (Rows.uptoBulk (H:=H)) Rows.uptoBulkAll:=⟨by simp[Rows.uptoBulkAll],fun _ _=>by simp[Rows.uptoBulkAll],fun _ _=>by simp only[Rows.uptoBulk];omega,fun _=>by simp[Rows.uptoBulk],fun l=>by cases l<;>simp[Rows.uptoBulk],fun _=>by simp[Rows.uptoBulk],by simp[Rows.uptoBulk]⟩
theorem contract (law:Law) (H:Type) (enc:TypeId×Value→H) (W:World) (base:Nat) (args:Array Value) (ds gs:List (DataW H)) (before:List MemPlace)
  (hval:∀(j:Nat) t v,Tryz.f4.params[j]? =some t→args[j]? =some v→Value.okWide Tryz.prog W .any base t v)
  (hW:DataW.Whole enc Tryz.prog Tryz.f4.params.toList Rows.cascadeEntriesSpec.vars false W args.toList ds gs before) (hk:Rows.uptoSmall H (ds++gs)=true) (hL:laidMetH Tryz.prog Rows.cascadeEntriesUptoRow.laid W):
  Calls Tryz.prog 4 args W fun e W'=>∃v,e= .returned v∧Rows.cascadeEntriesSpec.post enc Tryz.prog Tryz.f4 false true false false W args v W':=by
 have hW0:=hW
 haveI:hP W:=mT hL
 obtain⟨p,q,hA,hV,hpq,hz,hn⟩:=hW
 obtain⟨rfl,rfl⟩:=trodVars_none hV
 rw[show Tryz.f4.params.toList=[35,22,24] from by rw[Tryz.params4]] at hA
 rw[Tryz.params4] at hval
 obtain⟨v0,vs0,d0,ds0,p0,q0,ha0,hd0,_,t0,r0⟩:=trodAll_cons hA
 obtain⟨v1,vs1,d1,ds1,p1,q1,ha1,hd1,_,t1,r1⟩:=trodAll_cons r0
 obtain⟨v2,vs2,d2,ds2,p2,q2,ha2,hd2,_,t2,r2⟩:=trodAll_cons r1
 obtain⟨hvn,hdn,_⟩:=trodAll_nil r2
 subst hvn
 subst hdn
 subst ha2
 subst hd2
 subst ha1
 subst hd1
 subst hd0
 obtain rfl:args=#[v0,v1,v2]:=by cases args;simp_all
 obtain⟨n0,t0⟩:=t0
 obtain⟨x0,c0,g0,b0⟩:=rw35 (blk H) t0
 have k0:=Kd.val_of (K:=aM) kt35.agg (hval 0 35 v0 rfl rfl) c0
 obtain⟨n1,t1⟩:=t1
 obtain⟨x1,c1,g1,b1⟩:=rw22 (blk H) t1
 have k1:=Kd.val_of (K:=kSl (kSl (kInt .u8))) kt22.agg (hval 1 22 v1 rfl rfl) c1
 obtain⟨n2,t2⟩:=t2
 obtain⟨x2,c2,g2,b2⟩:=rw24 (blk H) t2
 have k2:=Kd.val_of (K:=kSl (kInt .u8)) kt24.agg (hval 2 24 v2 rfl rfl) c2
 dsimp only at b0 b1 b2
 have hb:=of_decide_eq_true hk
 simp only[Rows.uptoBulkAll,List.append_nil] at hb
 have hlaw:=law x0 x1 x2 g0 g1 g2 (by omega)
 refine lB hW0 rfl rfl (tb:=4) rfl Tryz.underlying4 kids full (by rw[Tryz.params4];decide) ?_
 exact o76 hlaw [] (FzOf W) W [v0,v1,v2] (by simp only[SV.oks,SV.ok];exact⟨k0,k1,k2,trivial⟩) (St.start W)
noncomputable def gM (os:Os):World:=
 {World.holding Tryz.prog os ⟨#[],#[],[]⟩ with heap:=(World.holding Tryz.prog os ⟨#[],#[],[]⟩).heap.modify 0 fun
  | .cells _ t frozen=> .cells (glob0.map (Value.int .u32 ·)).toArray t frozen
  |o=>o}
theorem lG (os:Os):laidMet Tryz.prog Rows.cascadeEntriesUptoRow.laid ((gM os).forCall (fun _ _=>0) ⟨#[],#[(Value.agg #[.int .i64 0,.int .i64 0,.int .i64 0]:Value),(.slice none 0 0:Value),(.slice none 0 0:Value)],[]⟩).memory:=
 laidMet_of_run' 8 (by kernel_rfl) (by kernel_rfl)
theorem reads (os:Os) {H:Type} (enc:TypeId×Value→H):∃places,DataW.whole enc Tryz.prog ((gM os).forCall (fun _ _=>0) ⟨#[],#[(Value.agg #[.int .i64 0,.int .i64 0,.int .i64 0]:Value),(.slice none 0 0:Value),(.slice none 0 0:Value)],[]⟩).memory Tryz.f4.params.toList Rows.cascadeEntriesSpec.vars false (#[(Value.agg #[.int .i64 0,.int .i64 0,.int .i64 0]:Value),(.slice none 0 0:Value),(.slice none 0 0:Value)]).toList 8=some ([.agg [.lit (.int .i64 0),.lit (.int .i64 0),.lit (.int .i64 0)],.nil,.nil],[],places):=
 ⟨[],by kernel_rfl⟩
set_option maxRecDepth 100000 in
theorem lifted (law:Law) (os:Os) (started:os.Started) (H:Type) (enc:TypeId×Value→H) (F:Stop.Interp):
  ReturnsInHanded {} Tryz.checked os 4 .any ((Rows.OpenSpec.upto Rows.cascadeEntriesSpec).preRow enc Tryz.prog Tryz.f4 Rows.cascadeEntriesUptoRow.domain false Rows.cascadeEntriesUptoRow.laid) (((Rows.OpenSpec.upto Rows.cascadeEntriesSpec).at F).post enc Tryz.prog Tryz.f4 false true false false):=by
 obtain⟨places,hx⟩:=reads os enc
 refine returnsInHanded_of_row (C:=Tryz.checked) (s:=Rows.OpenSpec.upto Rows.cascadeEntriesSpec) own started (by kernel_rfl) Tryz.func4
  (witness_row_at (enc:=enc) (C:=Tryz.checked) false (gM os) #[(Value.agg #[.int .i64 0,.int .i64 0,.int .i64 0]:Value),(.slice none 0 0:Value),(.slice none 0 0:Value)] rfl (by kernel_rfl) (by kernel_rfl) (by kernel_rfl)
   (OpenSpec.preRow_of_cond 8 hx (by kernel_rfl) (fun k hk=>by cases hk;kernel_rfl) (by kernel_rfl) (lG os))) ?_
 intro W base args ds gs before hval hW _ hk _ hL _ _
 exact contract law H enc W base args ds gs before hval hW (hk _ rfl) hL
end DCascadeEntries
end Go.Proofs.YtdkfkpbijdimkaaGreatDoor
