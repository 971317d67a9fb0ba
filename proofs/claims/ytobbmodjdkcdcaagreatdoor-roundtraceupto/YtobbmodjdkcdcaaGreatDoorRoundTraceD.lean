import Derived.Test.YtobbmodjdkcdcaaGreatDoorRt8
import Derived.ProofKit
import Derived.Deep.DeepHandedRow
import Derived.LaidMore
import Derived.Lib.LaidTab
set_option autoImplicit true
set_option relaxedAutoImplicit true
set_option linter.all false
set_option maxRecDepth 20000
namespace Go.Proofs.YtobbmodjdkcdcaaGreatDoor
open Go Go.Sim Go.ChangeShapes Go.WideShapes Go.ChangeAt Go.RowKit Go.Proofs.Tryz
variable [Fu]
namespace DRoundTrace
def Law:Prop:=∀(x0:bW) (x1:Int) (x2:Int),kK x0→(gInt .u64) x1→(gInt .i64) x2→gv x0+bOne x1+bOne x2≤1048576→cW x0 x1 x2=some true
theorem gTab : prog.globalNamed "churn/hash.roots" = some 0 := kr
theorem DS:(prog.globals[0]?).map (·.type)=some 319:=kr
theorem Fe:prog.cellsOf 319=64:=kr
theorem Ff:prog.cellsOf 142=1:=kr
theorem table (h : laidMetH prog Rows.roundTraceUptoRow.laid W): Lib.TabIs prog W "churn/hash.roots" .u32 glob0 :=
 Lib.tabIs_of_head (rest:=[]) gTab DS U319 U142 Ff Fe h
theorem Fs (h:laidMetH prog Rows.roundTraceUptoRow.laid W):sZ W:=⟨λg k xs e=>by have ht:=table h;unfold Lib.TabIs World.var? at ht;rw[gTab] at ht;simp only[FR] at ht;cases hb:Nat.beq 0 g with|false=>(have e2:Ah g Ag=none:=by show cond (Nat.beq 0 g) _ _=_;rw[hb];rfl);rw[e2] at e;cases e|true=>obtain rfl:0=g:=GK hb;have e2:Ah 0 Ag=some (.u32,glob0):=rfl;rw[e2] at e;cases e;split at ht;rename_i cs t fr hh;cases ht;exact⟨_,_,hh⟩;cases ht⟩
theorem own:ownKnob prog.godebug=none:=kr
theorem kids:Kids prog (· <prog.types.size):=kids_rows kr kr
theorem full:∀t e,t<prog.types.size→prog.underlying t=some (.slice e)→0<prog.cellsOf e:=slices_full_of prog kr
theorem blk (H:Type):Blk (Rows.uptoBulk (H:=H)) Rows.uptoBulkAll:=⟨by simp[Rows.uptoBulkAll],λ_ _=>by simp[Rows.uptoBulkAll],λ_ _=>by simp only[Rows.uptoBulk];omega,λ_=>by simp[Rows.uptoBulk],λl=>by cases l<;>simp[Rows.uptoBulk],λ_=>by simp[Rows.uptoBulk],by simp[Rows.uptoBulk]⟩
theorem contract (law:Law) (H:Type) (enc:TypeId×Value→H) (W:World) (base:Nat) (args:Array Value) (ds gs:List (DataW H)) (before:List MemPlace) (hval:∀(j:Nat) t v,Tryz.f6.params[j]? =some t→args[j]? =some v→Value.okWide prog W .any base t v) (hW:DataW.Whole enc prog Tryz.f6.params.toList Rows.roundTraceSpec.vars false W args.toList ds gs before) (hk:Rows.uptoSmall H (ds++gs)=true) (hL:laidMetH prog Rows.roundTraceUptoRow.laid W): Calls prog 6 args W λe W'=>∃v,e= .returned v∧Rows.roundTraceSpec.post enc prog Tryz.f6 false true false false W args v W':=by have hW0:=hW;haveI:sZ W:=Fs hL;obtain⟨p,q,hA,hV,hpq,hz,hn⟩:=hW;obtain⟨rfl,rfl⟩:=trodVars_none hV;rw[show Tryz.f6.params.toList=[31,71,3] from by rw[Tryz.params6]] at hA;rw[Tryz.params6] at hval;obtain⟨v0,vs0,d0,ds0,p0,q0,ha0,hd0,_,t0,r0⟩:=trodAll_cons hA;obtain⟨v1,vs1,d1,ds1,p1,q1,ha1,hd1,_,t1,r1⟩:=trodAll_cons r0;obtain⟨v2,vs2,d2,ds2,p2,q2,ha2,hd2,_,t2,r2⟩:=trodAll_cons r1;obtain⟨hvn,hdn,_⟩:=trodAll_nil r2;subst hvn;subst hdn;subst ha2;subst hd2;subst ha1;subst hd1;subst hd0;(obtain rfl:args=#[v0,v1,v2]:=by cases args;simp_all);obtain⟨n0,t0⟩:=t0;obtain⟨x0,c0,g0,b0⟩:=rw31 (blk H) t0;have k0:=Lg (K:=cN) kt31.agg (hval 0 31 v0 rfl rfl) c0;obtain⟨n1,t1⟩:=t1;obtain⟨x1,c1,g1,b1⟩:=rw71 (blk H) t1;have k1:=Lg (K:=kInt .u64) kt71.agg (hval 1 71 v1 rfl rfl) c1;obtain⟨n2,t2⟩:=t2;obtain⟨x2,c2,g2,b2⟩:=rw3 (blk H) t2;have k2:=Lg (K:=kInt .i64) kt3.agg (hval 2 3 v2 rfl rfl) c2;dsimp only at b0 b1 b2;have hb:=FO hk;simp only[Rows.uptoBulkAll,Hr] at hb;have hlaw:=law x0 x1 x2 g0 g1 g2 (by omega);exact CP hW0 rfl rfl (tb:=4) rfl underlying4 kids full (by rw[Tryz.params6];decide)<|o171 hlaw [] (FzOf W) W [v0,v1,v2] (by simp only[SV.oks,SV.ok];exact⟨k0,lN.1 k1,lN.1 k2,trivial⟩) (MR W)
noncomputable def sf (os:Os):World:={World.holding prog os ⟨#[],#[],[]⟩ with heap:=(World.holding prog os ⟨#[],#[],[]⟩).heap.modify 0 fun| .cells _ t frozen=> .cells (glob0.map (Value.int .u32 ·)).toArray t frozen|o=>o}
theorem DT (os:Os):laidMet prog Rows.roundTraceUptoRow.laid ((sf os).forCall (λ_ _=>0) ⟨#[],#[(Value.agg (List.replicate 1 (.slice none 0 0:Value)++List.replicate 12 (.int .i64 0:Value)++List.replicate 3 (.slice none 0 0:Value)).toArray:Value),(.int .u64 0:Value),(.int .i64 0:Value)],[]⟩).memory:=laidMet_of_run' 8 kr kr
theorem reads (os:Os) (enc:TypeId×Value→H):∃places,DataW.whole enc prog ((sf os).forCall (λ_ _=>0) ⟨#[],#[(Value.agg (List.replicate 1 (.slice none 0 0:Value)++List.replicate 12 (.int .i64 0:Value)++List.replicate 3 (.slice none 0 0:Value)).toArray:Value),(.int .u64 0:Value),(.int .i64 0:Value)],[]⟩).memory Tryz.f6.params.toList Rows.roundTraceSpec.vars false (#[(Value.agg (List.replicate 1 (.slice none 0 0:Value)++List.replicate 12 (.int .i64 0:Value)++List.replicate 3 (.slice none 0 0:Value)).toArray:Value),(.int .u64 0:Value),(.int .i64 0:Value)]).toList 8=some ([.agg [.agg [.nil,.lit (.int .i64 0),.lit (.int .i64 0),.lit (.int .i64 0),.lit (.int .i64 0),.lit (.int .i64 0),.lit (.int .i64 0),.lit (.int .i64 0),.lit (.int .i64 0),.lit (.int .i64 0),.lit (.int .i64 0)],.agg [.lit (.int .i64 0),.agg [.lit (.int .i64 0),.nil]],.nil,.nil],.lit (.int .u64 0),.lit (.int .i64 0)],[],places):=⟨[],kr⟩
set_option maxRecDepth 100000 in
theorem lifted (law:Law) (os:Os) (started:os.Started) (H:Type) (enc:TypeId×Value→H) (F:Stop.Interp): ReturnsInHanded {} Tryz.checked os 6 .any ((Rows.OpenSpec.upto Rows.roundTraceSpec).preRow enc prog Tryz.f6 Rows.roundTraceUptoRow.domain false Rows.roundTraceUptoRow.laid) (((Rows.OpenSpec.upto Rows.roundTraceSpec).at F).post enc prog Tryz.f6 false true false false):=by obtain⟨places,hx⟩:=reads os enc;refine returnsInHanded_of_row (C:=Tryz.checked) (s:=Rows.OpenSpec.upto Rows.roundTraceSpec) own started kr func6 (witness_row_at (enc:=enc) (C:=Tryz.checked) false (sf os) #[(Value.agg (List.replicate 1 (.slice none 0 0:Value)++List.replicate 12 (.int .i64 0:Value)++List.replicate 3 (.slice none 0 0:Value)).toArray:Value),(.int .u64 0:Value),(.int .i64 0:Value)] rfl kr kr kr (OpenSpec.preRow_of_cond 8 hx kr (λk hk=>by cases hk;kernel_rfl) kr (DT os))) ?_;intro W base args ds gs before hval hW _ hk _ hL _ _;exact contract law H enc W base args ds gs before hval hW (hk _ rfl) hL
end DRoundTrace
end Go.Proofs.YtobbmodjdkcdcaaGreatDoor
