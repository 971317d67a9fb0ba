import Derived.Test.YtdkfkpbijdimkaaGreatSl1
set_option linter.unusedVariables false
set_option linter.unusedSimpArgs false
set_option maxRecDepth 20000
namespace Go.Proofs.YtdkfkpbijdimkaaGreat
open Go Go.Sim Go.ChangeShapes Go.WideShapes Go.ChangeAt Go.RowKit
set_option linter.unusedSectionVars false
variable [Fu]
namespace DServerLoads
def Law:Prop:=∀(x0:af) (x1:ab),cV x0→dm x1→bY x0+cm x1≤1048576→aF x0 x1=some true
instance globW (W:World):eK W:=ey.none rfl _
theorem own:ownKnob Tryz.prog.godebug=none:=by kernel_rfl
theorem kids:Kids Tryz.prog (· <Tryz.prog.types.size):=kids_rows (by kernel_rfl) (by kernel_rfl)
theorem full:∀t e,t<Tryz.prog.types.size→Tryz.prog.underlying t=some (.slice e)→0<Tryz.prog.cellsOf e:=slices_full_of Tryz.prog (by kernel_rfl)
theorem blk (H:Type):Blk (Rows.uptoBulk (H:=H)) Rows.uptoBulkAll:=⟨by simp[Rows.uptoBulkAll],fun _ _=>by simp[Rows.uptoBulkAll],fun _ _=>by simp only[Rows.uptoBulk];omega,fun _=>by simp[Rows.uptoBulk],fun l=>by cases l<;>simp[Rows.uptoBulk],fun _=>by simp[Rows.uptoBulk],by simp[Rows.uptoBulk]⟩
theorem contract (law:Law) (H:Type) (enc:TypeId×Value→H) (W:World) (base:Nat) (args:Array Value) (ds gs:List (DataW H)) (before:List MemPlace)
  (hval:∀(j:Nat) t v,Tryz.f3.params[j]? =some t→args[j]? =some v→Value.okWide Tryz.prog W .any base t v)
  (hW:DataW.Whole enc Tryz.prog Tryz.f3.params.toList Rows.serverLoadsSpec.vars false W args.toList ds gs before) (hk:Rows.uptoSmall H (ds++gs)=true):
  Calls Tryz.prog 3 args W fun e W'=>∃v,e= .returned v∧Rows.serverLoadsSpec.post enc Tryz.prog Tryz.f3 false true false false W args v W':=by
 have hW0:=hW
 obtain⟨p,q,hA,hV,hpq,hz,hn⟩:=hW
 obtain⟨rfl,rfl⟩:=trodVars_none hV
 rw[show Tryz.f3.params.toList=[24,29] from by rw[Tryz.params3]] at hA
 rw[Tryz.params3] at hval
 obtain⟨v0,vs0,d0,ds0,p0,q0,ha0,hd0,_,t0,r0⟩:=trodAll_cons hA
 obtain⟨v1,vs1,d1,ds1,p1,q1,ha1,hd1,_,t1,r1⟩:=trodAll_cons r0
 obtain⟨hvn,hdn,_⟩:=trodAll_nil r1
 subst hvn
 subst hdn
 subst ha1
 subst hd1
 subst hd0
 obtain rfl:args=#[v0,v1]:=by cases args;simp_all
 obtain⟨n0,t0⟩:=t0
 obtain⟨x0,c0,g0,b0⟩:=rw24 (blk H) t0
 have k0:=Kd.val_of (K:=ar) kt24.agg (hval 0 24 v0 rfl rfl) c0
 obtain⟨n1,t1⟩:=t1
 obtain⟨x1,c1,g1,b1⟩:=rw29 (blk H) t1
 have k1:=Kd.val_of (K:=ah) kt29.agg (hval 1 29 v1 rfl rfl) c1
 dsimp only at b0 b1
 have hb:=of_decide_eq_true hk
 simp only[Rows.uptoBulkAll,List.append_nil] at hb
 have hlaw:=law x0 x1 g0 g1 (by omega)
 refine gU hW0 rfl rfl (tb:=4) rfl Tryz.underlying4 kids full (by rw[Tryz.params3];decide) ?_
 exact o32 hlaw [] (FzOf W) W [v0,v1] (by simp only[SV.oks,SV.ok];exact⟨k0,k1,trivial⟩) (St.start W)
set_option maxRecDepth 100000 in
theorem lifted (law:Law) (os:Os) (started:os.Started) (H:Type) (enc:TypeId×Value→H) (F:Stop.Interp):
  ReturnsInHanded {} Tryz.checked os 3 .any ((Rows.OpenSpec.upto Rows.serverLoadsSpec).pre6 enc Tryz.prog Tryz.f3 Rows.serverLoadsUptoRow.domain false) (((Rows.OpenSpec.upto Rows.serverLoadsSpec).at F).post enc Tryz.prog Tryz.f3 false true false false):=by
 refine returnsInHanded_of_cond (C:=Tryz.checked) (s:=Rows.OpenSpec.upto Rows.serverLoadsSpec) (k:=Rows.uptoSmall) rfl own started (by kernel_rfl) Tryz.func3
  (OpenSpec.witness (enc:=enc) (C:=Tryz.checked) (s:=Rows.OpenSpec.upto Rows.serverLoadsSpec) (k:=Rows.uptoSmall) rfl false ⟨#[],#[(.agg (List.replicate 1 (.slice none 0 0:Value)++List.replicate 10 (.int .i64 0:Value)).toArray:Value),(.agg #[.int .i64 0,.int .i64 0,.slice none 0 0]:Value)],[]⟩ 8 (by kernel_rfl) (by kernel_rfl) (by kernel_rfl)
   (x:=([.agg [.nil,.lit (.int .i64 0),.lit (.int .i64 0),.lit (.int .i64 0),.lit (.int .i64 0),.lit (.int .i64 0),.lit (.int .i64 0),.lit (.int .i64 0),.lit (.int .i64 0),.lit (.int .i64 0),.lit (.int .i64 0)],.agg [.lit (.int .i64 0),.agg [.lit (.int .i64 0),.nil]]],[],[])) (by kernel_rfl) rfl (by kernel_rfl)) ?_
 intro W base args ds gs before hval hW _ hk _
 exact contract law H enc W base args ds gs before hval hW hk
end DServerLoads
end Go.Proofs.YtdkfkpbijdimkaaGreat
