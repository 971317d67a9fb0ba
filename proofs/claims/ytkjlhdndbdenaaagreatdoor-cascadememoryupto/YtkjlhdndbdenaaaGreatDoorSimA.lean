import Derived.Deep.MidRow
import Derived.WalkKit
import Derived.Deep.Quiet
import Derived.Great.BuildSlice
import Derived.KernelRfl
import Derived.ChangeKeysEq
import Derived.Laws.StructEq
import Derived.Laws.OwnMore
set_option linter.all false
set_option autoImplicit true
set_option relaxedAutoImplicit true
set_option autoImplicit true
set_option relaxedAutoImplicit true
namespace Go.Sim
open Go
def wc:=@cond_false
def wd:=@cond_true
def we:=@List.getElem?_eq_some_iff
def wg:=@decide_eq_true
def wh:=@Nat.mul_le_mul_right
def wi:=@List.length_append
def wj:=@of_decide_eq_true
def wk:=@decide_eq_false
def wl:=@Int.toNat_natCast
def wm:=@Result.andThen_ok
def wn:=@List.take_of_length_le
def wo:=@run_underlying
def wq:=@Bool.and_eq_true
def wt:=@of_decide_eq_false
def wu:=@List.getElem?_take_of_lt
def wv:=@Sem.run_bind
def ww:=@List.mem_of_getElem?
def wx:=@List.length_take
def wy:=@Nat.le_refl
def wz:=@decide_eq_true_eq
def wF:=@Sem.run_pure
def wL:=@Nat.zero_add
def wM:=@List.append_assoc
def wN:=@Option.map_eq_some_iff
def wO:=@List.length_drop
def wP:=@Addr.add_mid
def wQ:=@List.nil_append
def wR:=@List.eq_nil_of_length_eq_zero
def wS:=@List.map_cons
def wT:=@List.getElem?_drop
def wU:=@List.drop_drop
def wV:=@List.mem_iff_getElem?
def wW:=@Nat.eq_of_beq_eq_true
def wX:=@Nat.min_eq_left
def wY:=@Bool.eq_iff_iff
def wZ:=@Option.bind_eq_some_iff
def w4:=@List.all_eq_true
def w5:=@List.take_length
def w6:=@List.mem_append
def w7:=@Nat.succ_mul
def w8:=@List.getElem?_take
def w9:=@List.getD_eq_getElem?_getD
def xa:=@List.replicate_succ
def xb:=@Array.getElem?_setIfInBounds_self_of_lt
def xc:=@List.length_nil
def xd:=@List.take_succ_eq_append_getElem
def xe:=@Bool.or_eq_false_iff
def xf:=@Nat.zero_le
def xg:=@Array.length_toList
def xh:=@List.map_toArray
def xi:=@bne_self_eq_false
def xj:=@List.mem_map
def xk:=@List.drop_zero
def xl:=@List.take_left
def xm:=@List.map_congr_left
def xn:=@List.take_append_drop
def xo:=@Nat.le_of_ble_eq_true
def xp:=@Nat.add_mul
def xq:=@List.mem_of_mem_take
def xr:=@Nat.blt_eq
def xu:=@List.length_cons
def xv:=@if_neg
def xw:=@List.take_append_of_le_length
def xx:=@List.drop_append_of_le_length
def xy:=@List.mem_range
def xz:=@List.map_append
def xF:=@Nat.xor_lt_two_pow
def xM:=@BitVec.toNat_ofInt
def xN:=@if_pos
def xO:=@List.mem_singleton
def xP:=@List.cons_append
def xQ:=@List.getElem_mem
def xR:=@List.getElem?_append
def xS:=@List.set_eq_take_append_cons_drop
def xT:=@List.size_toArray
def xU:=@List.mem_filter
def xV:=@Bool.or_eq_true
def xW:=@Array.getElem?_setIfInBounds_ne
def xX:=@List.length_replicate
def xY:=@BitVec.xor_assoc
def xZ:=@getD_set_true
def x7:=@List.map_nil
def ya:=@List.getElem?_eq_getElem
def yb:=@beq_iff_eq
def yc:=@List.mem_cons
def yd:=@List.ext_getElem
def ye:=@List.drop_take
def yf:=@Nat.add_sub_cancel
def yg:=@List.take_take
def yh:=@List.take_zero
def yi:=@List.getElem?_eq_none
def yj:=@List.length_set
def yk:=@List.nodup_cons
def yl:=@List.foldl_append
def ym:=@Nat.add_zero
def yn:=@List.filterMap_cons_some
def yo:=@List.take_add
def yp:=@List.drop_eq_nil_of_le
def yq:=@List.mem_filterMap
def yr:=@Array.empty_append
def yt:=@BitVec.xor_comm
def yu:=@List.flatten_cons
def yv:=@List.ext_getElem?
def yw:=@List.drop_length_add_append
def yx:=@List.nodup_append
def yy:=@List.take_length_add_append
def yz:=@Array.getD_eq_getD_getElem?
def yF:=@getD_set_ne
def yM:=@List.drop_left
def yN:=@Go.RowKit.Below.heap_alloc
def yO:=@beq_self_eq_true
def yP:=@Option.getD_some
def yQ:=@decide_false
def yR:=@ByteArray.toList_eq
def yS:=@List.drop_replicate
def yT:=@Bool.true_and
def yU:=@Nat.lt_irrefl
def yV:=@Bool.not_true
def yW:=@BitVec.zero_xor
def yX:=@List.range_succ
def yY:=@List.append_nil
def yZ:=@List.set_cons_succ
def za:=@decide_eq_false_iff_not
def zb:=@cell_of_row
def zc:=@List.mem_append_right
def zd:=@List.getElem_set
def ze:=@and_true
def zf:=@Nat.pow_le_pow_right
def zg:=@List.mem_append_left
def zh:=@List.foldl_cons
def zi:=@run_firstCells_some
def zj:=@Nat.le_trans
def zk:=@Nat.zero_mul
def zl:=@mem_ready
def zm:=@growslice_fits
def zn:=@List.mapM_cons
def zo:=@List.all_cons
def zp:=@Nat.add_assoc
def zr:=@if_true
def px:List (Nat×IntKind×List Int):=[(0,.u32,[1116352408,1899447441,3049323471,3921009573,961987163,1508970993,2453635748,2870763221,3624381080,310598401,607225278,1426881987,1925078388,2162078206,2614888103,3248222580,3835390401,4022224774,264347078,604807628,770255983,1249150122,1555081692,1996064986,2554220882,2821834349,2952996808,3210313671,3336571891,3584528711,113926993,338241895,666307205,773529912,1294757372,1396182291,1695183700,1986661051,2177026350,2456956037,2730485921,2820302411,3259730800,3345764771,3516065817,3600352804,4094571909,275423344,430227734,506948616,659060556,883997877,958139571,1322822218,1537002063,1747873779,1955562222,2024104815,2227730452,2361852424,2428436474,2756734187,3204031479,3329325298])]
def py (g:Nat):List (Nat×IntKind×List Int)→Option (IntKind×List Int)|[]=>none|x::r=>cond (Nat.beq x.1 g) (some x.2) (py g r)
class n9 (heap:Nat→Option Obj):Prop where
 on:∀g k xs,py g px=some (k,xs)→∃T fr,heap g=some (.cells (xs.map (Value.int k ·)).toArray T fr)
theorem CJ (h:px=[]) (a:Nat→Option Obj):n9 a:=⟨λg k xs e=>by rw[h] at e;cases e⟩
end Go.Sim
namespace Go.Sim
open Go
structure Fz where
 blk:Nat→Option Obj
 os:Os
 tape:Nat→Question→Nat
 output:Array (Nat×ByteArray)
 glob:n9 blk
structure Fz.le (F G:Fz):Prop where
 blk:∀b o,F.blk b=some o→G.blk b=some o
 os:G.os=F.os
 tape:G.tape=F.tape
 output:G.output=F.output
structure Fz.on (F:Fz) (w:World):Prop where
 blk:∀b o,F.blk b=some o→w.heap[b]? =some o
 os:w.os=F.os
 tape:w.tape=F.tape
 output:w.output=F.output
instance:LE Fz:=⟨Fz.le⟩
theorem A5 (F:Fz):F≤F:=⟨λ_ _ h=>h,rfl,rfl,rfl⟩
theorem Au {F G H:Fz} (h:F≤G) (k:G≤H):F≤H:=⟨λb o e=>k.blk b o (h.blk b o e),k.os.trans h.os,k.tape.trans h.tape,k.output.trans h.output⟩
abbrev cD:=Nat→Option Obj
def cD.emp:cD:=λ_=>none
def cD.one (b:Nat) (o:Obj):cD:=λk=>if k=b then some o else none
theorem zN (b:Nat) (o:Obj):cD.one b o b=some o:=by simp[cD.one]
theorem AA (o:Obj) (h:k≠b):cD.one b o k=none:=by simp[cD.one,h]
theorem As (h:cD.one b o k=some q):k=b∧q=o:=by unfold cD.one at h;split at h;exact⟨‹_›,(Option.some.inj h).symm⟩;cases h
def Fz.add (F:Fz) (h:cD):Fz:={F with blk:=λb=>match F.blk b with|some o=>some o|none=>h b,glob:=⟨λg k xs e=>by obtain⟨T,fr,q⟩:=F.glob.on g k xs e;exact⟨T,fr,by simp[q]⟩⟩}
theorem Fz.le_add (F:Fz) (h:cD):F≤F.add h:=⟨λb o e=>by simp[Fz.add,e],rfl,rfl,rfl⟩
theorem Av (F:Fz):F.add cD.emp=F:=by cases F;simp only[Fz.add,cD.emp,Fz.mk.injEq,ze];funext b;split<;>simp_all
theorem BG {F:Fz} (e:(F.add h).blk b=some o):F.blk b=some o∨(F.blk b=none∧h b=some o):=by simp only[Fz.add] at e;split at e;rename_i q hq;exact .inl (by rw[hq];exact e);rename_i hq;exact .inr ⟨hq,e⟩
theorem Ak {F:Fz}:(F.add h).blk b=none↔F.blk b=none∧h b=none:=by simp only[Fz.add];split<;>simp_all
def oB (F:Fz) (h:cD):Prop:=∀b,h b≠none→F.blk b=none
theorem fO {F:Fz} (hk:∀b,k b≠none→h b=none):(F.add h).add k=(F.add k).add h:=by simp only[Fz.add,Fz.mk.injEq,ze];funext b;cases hF:F.blk b<;>simp only[];cases hh:h b with|none=>cases a:k b<;>simp|some o=>cases a:k b with|none=>simp|some q=>have:=hk b (by simp[a]);simp[hh] at this
inductive j_ (S R:Type) where
 |next (s:S)
 |done (r:R)
def Loop.iter {S R:Type} (step:S→Option (j_ S R)):Nat→S→Option R|0,_=>none|k+1,s=>match step s with|none=>none|some (.done r)=>some r|some (.next s')=>Loop.iter step k s'
theorem AS {S R:Type} {step:S→Option (j_ S R)}:∀(k:Nat) (s:S) (r:R),Loop.iter step k s=some r→Loop.iter step (k+1) s=some r|0,_,_,h=>by cases h|k+1,s,r,h=>by rw[Loop.iter] at h⊢;split at h;cases h;exact h;exact AS k _ r h
theorem AI {S R:Type} {step:S→Option (j_ S R)} {k:Nat} {s:S} {r:R} (h:Loop.iter step k s=some r):∀m,Loop.iter step (k+m) s=some r|0=>h|m+1=>AS (k+m) s r (AI h m)
theorem Br {S R:Type} {step:S→Option (j_ S R)} {k m:Nat} {s:S} {r q:R} (h:Loop.iter step k s=some r) (h':Loop.iter step m s=some q):r=q:=by have a:=AI h m;have b:=AI h' k;rw[Nat.add_comm] at b;exact Option.some.inj (a.symm.trans b)
open Classical in
noncomputable def Loop.runC {S R:Type} (step:S→Option (j_ S R)) (s:S):Option R:=if h:∃r k,Loop.iter step k s=some r then some h.choose else none
theorem AF {S R:Type} {step:S→Option (j_ S R)} {k:Nat} {s:S} {r:R} (h:Loop.iter step k s=some r):Loop.runC step s=some r:=by have hx:∃r k,Loop.iter step k s=some r:=⟨r,k,h⟩;unfold Loop.runC;rw[dif_pos hx];obtain⟨m,hm⟩:=hx.choose_spec;rw[Br hm h]
noncomputable def Loop.runN {S R:Type} (n:Nat) (step:S→Option (j_ S R)) (s:S):Option R:=match Loop.iter step n s with|some r=>some r|none=>Loop.runC step s
theorem AO {S R:Type} (n:Nat) (step:S→Option (j_ S R)) (s:S):Loop.runN n step s=Loop.runC step s:=by unfold Loop.runN;cases e:Loop.iter step n s with|some q=>exact(AF e).symm|none=>rfl
class Fu where
 n:Quot (λ_ _:Nat=>True)
theorem Fu.one (a b:Fu):a=b:=by obtain⟨a⟩:=a;obtain⟨b⟩:=b;congr 1;induction a using Quot.ind;induction b using Quot.ind;exact Quot.sound trivial
abbrev Fu.of (n:Nat):Fu:=⟨Quot.mk _ n⟩
noncomputable def Loop.run [f:Fu] {S R:Type} (step:S→Option (j_ S R)) (s:S):Option R:=Quot.lift (λn=>Loop.runN n step s) (λa b _=>(AO a step s).trans (AO b step s).symm) f.n
theorem A6 [f:Fu] (step:S→Option (j_ S R)) (s:S):Loop.run step s=Loop.runC step s:=by obtain⟨n⟩:=f;induction n using Quot.ind;exact AO _ step s
theorem Aw [Fu] {S R:Type} {step:S→Option (j_ S R)} {k:Nat} {s:S} {r:R} (h:Loop.iter step k s=some r):Loop.run step s=some r:=by rw[A6];exact AF h
theorem Ar [Fu] {S R:Type} {step:S→Option (j_ S R)} {s:S} {r:R} (h:Loop.run step s=some r):∃k,Loop.iter step k s=some r:=by rw[A6] at h;unfold Loop.runC at h;split at h;rename_i hx;obtain⟨m,hm⟩:=hx.choose_spec;rw[Option.some.inj h] at hm;exact⟨m,hm⟩;cases h
variable [Fu]
theorem zO {S R:Type} {step:S→Option (j_ S R)} {s:S} {r:R} (h:step s=some (.done r)):Loop.run step s=some r:=Aw (k:=1) (by simp[Loop.iter,h])
theorem zV {S R:Type} {step:S→Option (j_ S R)} {s s':S} (h:step s=some (.next s')):Loop.run step s=Loop.run step s':=by cases e:Loop.run step s' with|some r=>obtain⟨k,hk⟩:=Ar e;exact Aw (k:=k+1) (by simp[Loop.iter,h,hk])|none=>cases e':Loop.run step s with|none=>rfl|some r=>obtain⟨k,hk⟩:=Ar e';cases k with|zero=>cases hk|succ k=>simp only[Loop.iter,h] at hk;rw[Aw hk] at e;cases e
theorem pz {P:Program} {S R:Type} {step:S→Option (j_ S R)} {s0:S} {r:R} (hrun:Loop.run step s0=some r) (I:S→Act→World→Prop) {c:Code}
  {Q:Exit→Act→World→Prop} {a:Act} {w:World} (h0:I s0 a w)
  (round:∀s o a w,step s=some o→(∀q,o= .done q→q=r)→I s a w→c.wp P (Exit.then (λa' w'=>∃s',o= .next s'∧I s' a' w') Q) a w):(Code.loop c).wp P Q a w:=by
 obtain⟨k,hk⟩:=Ar hrun
 intro b kk cs
 have key:∀k s a w,Loop.iter step k s=some r→I s a w→
   ∃e a' w',Q e a' w'∧Arrives P (lone (b.at a (.code c:: .inLoop c::kk)) cs w) b kk cs e a' w':=by
  intro k
  induction k with
  |zero=>intro s a w h _;cases h
  |succ k ih=>
   intro s a w h hI
   rw[Loop.iter] at h
   have hr:∃o,step s=some o∧(∀q,o= .done q→q=r)∧(∀s',o= .next s'→Loop.iter step k s'=some r):=by
    split at h
    · cases h
    · rename_i q hq;exact⟨_,hq,λq' e=>by cases e;exact Option.some.inj h,λs' e=>by cases e⟩
    · rename_i s' hq;exact⟨_,hq,λq' e=>(by cases e),λs'' e=>by cases e;exact h⟩
   obtain⟨o,ho,hd,hn⟩:=hr
   obtain⟨e,a₁,w₁,hq,harr⟩:=round s o a w ho hd hI b (.inLoop c::kk) cs
   cases e with
   |normal=>
    obtain⟨s',he,hI₁⟩:=hq
    obtain⟨e₂,a₂,w₂,hq₂,harr₂⟩:=ih s' a₁ w₁ (hn s' he) hI₁
    exact⟨e₂,a₂,w₂,hq₂,.of_steps (Steps.trans harr (.one step_inLoop)) harr₂⟩
   |exit id=>exact⟨_,a₁,w₁,hq,.pass (x:= .inLoop c) rfl (λ_ _=> .inl (by simp)) harr⟩
   |goto l=>exact⟨_,a₁,w₁,hq,.pass (x:= .inLoop c) rfl (λ_ _=> .inl (by simp)) harr⟩
   |ret=>exact⟨_,a₁,w₁,hq,.pass (x:= .inLoop c) rfl (λ_ _=> .inl (by simp)) harr⟩
   |panic ch=>exact⟨_,a₁,w₁,hq,.pass (x:= .inLoop c) rfl (λ_ _=> .inl (by simp)) harr⟩
   |outgrown=>exact⟨_,a₁,w₁,hq,.pass (x:= .inLoop c) rfl (λ_ _=> .inl (by simp)) harr⟩
 obtain⟨e,a',w',hq,harr⟩:=key k s0 a w hk h0
 exact⟨e,a',w',hq,.of_steps (.one step_loop) harr⟩
end Go.Sim
namespace Go.Sim
open Go
structure Kd (α:Type) where
 n:Nat
 agg:Bool
 rd:Fz→List Value→α→Prop
 len:∀{F cs x},rd F cs x→cs.length=n
 mono:∀{F G cs x},F≤G→rd F cs x→rd G cs x
 one:∀{F cs x},rd F cs x→∀v∈cs,v.oneCell'=true
 sole:agg=false→n=1
def pB (agg:Bool) (cs:List Value):Value:=if agg then .agg cs.toArray else cs.headD undef
def Kd.val {α:Type} (K:Kd α) (F:Fz) (v:Value) (x:α):Prop:=∃cs,K.rd F cs x∧v=pB K.agg cs
theorem Kd.val.mono {K:Kd α} (h:K.val F v x) (hg:F≤G):K.val G v x:=let ⟨cs,a,b⟩:=h;⟨cs,K.mono hg a,b⟩
theorem lX {K:Kd α} {cs:List Value} (h:K.rd F cs x):(pB K.agg cs).cells=cs.toArray:=by unfold pB;cases ha:K.agg with|true=>simp[Value.cells]|false=>have hl:=K.len h;rw[K.sole ha] at hl;match cs,hl with|[c],_=>have:=K.one h c (by simp);simp only[List.headD_cons,Bool.false_eq_true,if_false];cases c<;>first|rfl|simp[Value.oneCell'] at this
theorem Kd.val.rd {K:Kd α} {v:Value} (h:K.val F v x):K.rd F v.cells.toList x:=by obtain⟨cs,a,rfl⟩:=h;rw[lX a];simpa using a
theorem Kd.val.eq_pack {K:Kd α} {v:Value} (h:K.val F v x):v=pB K.agg v.cells.toList:=by obtain⟨cs,a,rfl⟩:=h;rw[lX a]
theorem Kd.val.sizeEq {K:Kd α} {v:Value} (h:K.val F v x):v.cells.size=K.n:=by have:=K.len h.rd;simpa using this
def bB (k:IntKind):Kd Int where
 n:=1
 agg:=false
 rd:=λ_ cs x=>cs=[.int k x]
 len:=λh=>by subst h;rfl
 mono:=λ_ h=>h
 one:=λh v hv=>by subst h;simp at hv;subst hv;rfl
 sole:=λ_=>rfl
def jg:Kd Bool where
 n:=1
 agg:=false
 rd:=λ_ cs x=>cs=[.bool x]
 len:=λh=>by subst h;rfl
 mono:=λ_ h=>h
 one:=λh v hv=>by subst h;simp at hv;subst hv;rfl
 sole:=λ_=>rfl
def kG:Kd (List Int) where
 n:=1
 agg:=false
 rd:=λ_ cs x=>∃s:ByteArray,cs=[.string s]∧x=s.data.toList.map (λb=>(b.toNat:Int))
 len:=λ⟨_,h,_⟩=>by subst h;rfl
 mono:=λ_ h=>h
 one:=λ⟨_,h,_⟩ v hv=>by subst h;simp at hv;subst hv;rfl
 sole:=λ_=>rfl
theorem lx:(bB k).val F v x↔v= .int k x:=⟨λ⟨cs,h,e⟩=>by cases h;exact e,λh=>⟨[.int k x],rfl,h⟩⟩
theorem pL:jg.val F v x↔v= .bool x:=⟨λ⟨cs,h,e⟩=>by cases h;exact e,λh=>⟨[.bool x],rfl,h⟩⟩
def bd {α:Type} (K:Kd α) (F:Fz):List Value→List α→Prop|cs,[]=>cs=[]|cs,x::xs=>∃c d,cs=c++d∧K.rd F c x∧bd K F d xs
section
variable {α:Type} {K:Kd α} {F G:Fz}
theorem bd.len:∀{xs:List α} {cs:List Value},bd K F cs xs→cs.length=xs.length*K.n|[],cs,h=>by cases h;simp|x::xs,cs,⟨c,d,e,h,r⟩=>by subst e;rw[wi,K.len h,bd.len r,xu,w7];omega
theorem bd.mono (hg:F≤G):∀{xs:List α} {cs:List Value},bd K F cs xs→bd K G cs xs|[],cs,h=>h|x::xs,cs,⟨c,d,e,h,r⟩=>⟨c,d,e,K.mono hg h,bd.mono hg r⟩
theorem bd.one:∀{xs:List α} {cs:List Value},bd K F cs xs→∀v∈cs,v.oneCell'=true|[],cs,h,v,hv=>by cases h;cases hv|x::xs,cs,⟨c,d,e,h,r⟩,v,hv=>by subst e;rcases w6.1 hv with hv|hv;exact K.one h v hv;exact bd.one r v hv
theorem bd.append:∀{xs:List α} {cs ds:List Value} {ys:List α},bd K F cs xs→bd K F ds ys→bd K F (cs++ds) (xs++ys)|[],cs,ds,ys,h,k=>by cases h;simpa using k|x::xs,cs,ds,ys,⟨c,d,e,h,r⟩,k=>⟨c,d++ds,by subst e;simp,h,bd.append r k⟩
theorem bd.split:∀{xs:List α} {cs:List Value} {ys:List α},bd K F cs (xs++ys)→bd K F (cs.take (xs.length*K.n)) xs∧bd K F (cs.drop (xs.length*K.n)) ys|[],cs,ys,h=>by simp;exact⟨rfl,h⟩|x::xs,cs,ys,⟨c,d,e,h,r⟩=>by subst e;have hl:=K.len h;obtain⟨r1,r2⟩:=bd.split r;(have e1:(x::xs).length*K.n=c.length+xs.length*K.n:=by rw[xu,w7,hl];omega);rw[e1,yy,yw];exact⟨⟨c,_,rfl,h,r1⟩,r2⟩
theorem Ca (h:K.rd F cs x):bd K F cs [x]:=⟨cs,[],by simp,h,rfl⟩
theorem bd.get {xs:List α} {cs:List Value} (h:bd K F cs xs) (hx:xs[i]? =some x):K.rd F ((cs.drop (i*K.n)).take K.n) x:=by obtain⟨hi,rfl⟩:=we.1 hx;(have e:xs=xs.take i++(xs[i]::xs.drop (i+1)):=by simp);rw[e] at h;(have hl:(xs.take i).length=i:=by simp;omega);have h2:=h.split.2;rw[hl] at h2;obtain⟨c,d,e',h',_⟩:=h2;have a:=K.len h';rw[e'];rw[←a,xl];exact h'
theorem bd.set {xs:List α} {cs:List Value} (h:bd K F cs xs) (hi:i<xs.length) (hy:K.rd F c y):bd K F (cs.take (i*K.n)++c++cs.drop (i*K.n+K.n)) (xs.set i y):=by(have e:xs=xs.take i++([xs[i]]++xs.drop (i+1)):=by simp);(have e2:xs.set i y=xs.take i++([y]++xs.drop (i+1)):=by rw[xS,xN hi];rfl);rw[e2];rw[e] at h;(have hl:(xs.take i).length=i:=by simp;omega);obtain⟨h1,h2⟩:=h.split;rw[hl] at h1 h2;have h3:=h2.split.2;simp only[xu,xc,wL,Nat.one_mul,wU] at h3;rw[wM];exact h1.append ((Ca hy).append h3)
theorem bd.take {xs:List α} {cs:List Value} (h:bd K F cs xs) (m:Nat):bd K F (cs.take (m*K.n)) (xs.take m):=by by_cases hm:m≤xs.length;(have e:xs=xs.take m++xs.drop m:=by simp);rw[e] at h;have h1:=h.split.1;rwa [wx,wX hm] at h1;have h1:xs.take m=xs:=wn (by omega);have h2:cs.take (m*K.n)=cs:=wn (by rw[h.len];exact wh _ (by omega));rw[h1,h2];exact h
theorem bd.drop {xs:List α} {cs:List Value} (h:bd K F cs xs) (m:Nat):bd K F (cs.drop (m*K.n)) (xs.drop m):=by by_cases hm:m≤xs.length;(have e:xs=xs.take m++xs.drop m:=by simp);rw[e] at h;have h1:=h.split.2;rwa [wx,wX hm] at h1;have h1:xs.drop m=[]:=List.drop_of_length_le (by omega);have h2:cs.drop (m*K.n)=[]:=List.drop_of_length_le (by rw[h.len];exact wh _ (by omega));rw[h1,h2];rfl
end
def bG {α:Type} (m:Nat) (K:Kd α):Kd (List α) where
 n:=m*K.n
 agg:=true
 rd:=λF cs xs=>xs.length=m∧bd K F cs xs
 len:=λ⟨e,h⟩=>by rw[h.len,e]
 mono:=λhg ⟨e,h⟩=>⟨e,h.mono hg⟩
 one:=λ⟨_,h⟩=>h.one
 sole:=λh=>by cases h
structure pG {α:Type} (F:Fz) (p:Addr) (K:Kd α) (x:α):Prop where
 out:∃c e fr,p.spot=none∧F.blk p.block=some (.cells c e fr)∧p.off+K.n≤c.size∧K.rd F ((c.toList.drop p.off).take K.n) x
theorem pG.mono {K:Kd α} (h:pG F p K x) (hg:F≤G):pG G p K x:=by obtain⟨c,e,fr,a,b,d,f⟩:=h.out;exact⟨c,e,fr,a,hg.blk _ _ b,d,K.mono hg f⟩
def cI {α:Type} (K:Kd α):Kd (List α) where
 n:=1
 agg:=false
 rd:=λF cs xs=>∃a cap,cs=[.slice a xs.length cap]∧xs.length≤cap∧(xs.length=0∨∃p c e fr,a=some p∧p.spot=none∧F.blk p.block=some (.cells c e fr)∧p.off+xs.length*K.n≤c.size∧
  bd K F ((c.toList.drop p.off).take (xs.length*K.n)) xs)
 len:=λ⟨_,_,h,_⟩=>by subst h;rfl
 mono:=λhg ⟨a,cap,h,hc,r⟩=>⟨a,cap,h,hc,r.imp id λ⟨p,c,e,fr,a1,a2,a3,a4,a5⟩=>⟨p,c,e,fr,a1,a2,hg.blk _ _ a3,a4,a5.mono hg⟩⟩
 one:=λ⟨_,_,h,_⟩ v hv=>by subst h;simp at hv;subst hv;rfl
 sole:=λ_=>rfl
def CU {α β:Type} (K:Kd α) (V:Kd β) (F:Fz):List MapEntry→List (α×β)→Prop|[],[]=>True|e::es,p::ps=>K.val F e.key p.1∧V.val F e.val p.2∧CU K V F es ps|_,_=>False
theorem CU.mono (hg:F≤G):∀{es:List MapEntry} {ps:List (α×β)},CU K V F es ps→CU K V G es ps|[],[],h=>h|e::es,p::ps,⟨a,b,c⟩=>⟨a.mono hg,b.mono hg,CU.mono hg c⟩|[],_::_,h=>h.elim|_::_,[],h=>h.elim
theorem CU.len:∀{es:List MapEntry} {ps:List (α×β)},CU K V F es ps→es.length=ps.length|[],[],h=>rfl|e::es,p::ps,⟨a,b,c⟩=>by simp[CU.len c]|[],_::_,h=>h.elim|_::_,[],h=>h.elim
def CN (es:Array MapEntry) (a:Nat):Prop:=(∀e∈es.toList,e.born<a)∧(es.toList.map (·.born)).Nodup
def Fi {α β:Type} (K:Kd α) (V:Kd β):Kd (List (α×β)) where
 n:=1
 agg:=false
 rd:=λF cs ps=>(cs=[.map none]∧ps=[])∨∃b es c,cs=[.map (some b)]∧F.blk b=some (.map es c)∧CU K V F es.toList ps∧CN es c
 len:=λh=>by rcases h with⟨h,_⟩|⟨_,_,_,h,_⟩<;>subst h<;>rfl
 mono:=λhg h=>h.imp id λ⟨b,es,c,h,a,r⟩=>⟨b,es,c,h,hg.blk _ _ a,r.1.mono hg,r.2⟩
 one:=λh v hv=>by rcases h with⟨h,_⟩|⟨_,_,_,h,_⟩<;>subst h<;>simp at hv<;>subst hv<;>rfl
 sole:=λ_=>rfl
structure en (β:Type) where
 {α:Type}
 K:Kd α
 get:β→α
def nF {β:Type}:List (en β)→Nat|[]=>0|f::fs=>f.K.n+nF fs
def eb {β:Type}:List (en β)→Nat→Nat|[],_=>0|_,0=>0|f::fs,i+1=>f.K.n+eb fs i
def lk {β:Type} (F:Fz):List (en β)→List Value→β→Prop|[],cs,_=>cs=[]|f::fs,cs,x=>∃c d,cs=c++d∧f.K.rd F c (f.get x)∧lk F fs d x
def h_ {β:Type} (fs:List (en β)):Kd β where
 n:=nF fs
 agg:=true
 rd:=λF cs x=>lk F fs cs x
 len:=by
  intro F cs x h
  induction fs generalizing cs with
  |nil=>cases h;rfl
  |cons f fs ih=>obtain⟨c,d,e,h,r⟩:=h;subst e;rw[wi,f.K.len h,ih r];rfl
 mono:=by
  intro F G cs x hg h
  induction fs generalizing cs with
  |nil=>exact h
  |cons f fs ih=>obtain⟨c,d,e,h,r⟩:=h;exact⟨c,d,e,f.K.mono hg h,ih r⟩
 one:=by
  intro F cs x h
  induction fs generalizing cs with
  |nil=>cases h;simp
  |cons f fs ih=>
   obtain⟨c,d,e,h,r⟩:=h;subst e
   intro v hv;rcases w6.1 hv with hv|hv
   · exact f.K.one h v hv
   · exact ih r v hv
 sole:=λh=>by cases h
theorem lk.get:∀{fs:List (en β)} {cs:List Value} {x:β} {i:Nat} {f:en β},lk F fs cs x→fs[i]? =some f→eb fs i+f.K.n≤cs.length∧f.K.rd F ((cs.drop (eb fs i)).take f.K.n) (f.get x)|[],_,_,_,_,_,h=>by cases h|g::fs,cs,x,0,f,⟨c,d,e,h,r⟩,hf=>by cases hf;subst e;have:=g.K.len h;simp only[eb,xk,wi];rw[←this,xl];exact⟨by omega,h⟩|g::fs,cs,x,i+1,f,⟨c,d,e,h,r⟩,hf=>by subst e;have hl:=g.K.len h;have ih:=lk.get r (i:=i) (f:=f) (by simpa using hf);simp only[eb,wi];rw[←hl,yw];exact⟨by omega,ih.2⟩
theorem df {l:List Value} (h:a+m≤n):(((l.drop b).take n).drop a).take m=(l.drop (b+a)).take m:=by rw[ye,wU,yg,wX (by omega)]
theorem pG.fld {β:Type} {F:Fz} {p:Addr} {fs:List (en β)} {x:β} (h:pG F p (h_ fs) x) {i:Nat} {f:en β} (hf:fs[i]? =some f):pG F ⟨p.block,p.off+eb fs i,none⟩ f.K (f.get x):=by obtain⟨c,e,fr,a,b,d,r⟩:=h.out;obtain⟨h1,h2⟩:=lk.get r hf;(have hn:(h_ fs).n=((c.toList.drop p.off).take (h_ fs).n).length:=by simp;omega);refine⟨c,e,fr,rfl,b,?_,?_⟩;have:=d;rw[hn] at this;simp only at*;omega;rw[←hn] at h1;rw[df h1] at h2;exact h2
theorem cI.at_ {K:Kd α} {xs:List α} (h:(cI K).val F v xs):∃a cap,v= .slice a xs.length cap∧∀i x,xs[i]? =some x→∃p,a=some p∧p.spot=none∧pG F ⟨p.block,p.off+i*K.n,none⟩ K x:=by obtain⟨cs,⟨a,cap,rfl,hc,r⟩,rfl⟩:=h;refine⟨a,cap,rfl,λi x hx=>?_⟩;obtain⟨hi,_⟩:=we.1 hx;rcases r with r|⟨p,c,e,fr,rfl,hp,hb,hle,ha⟩;omega;refine⟨p,rfl,hp,⟨c,e,fr,rfl,hb,?_,?_⟩⟩;have:(i+1)*K.n≤xs.length*K.n:=wh _ hi;rw[w7] at this;simp only;omega;have:=ha.get hx;rwa [df (by have:(i+1)*K.n≤xs.length*K.n:=wh _ hi;rw[w7] at this;omega)] at this
theorem pG.arr {K:Kd α} {p:Addr} {xs:List α} (h:pG F p (bG m K) xs) (hx:xs[i]? =some x):pG F ⟨p.block,p.off+i*K.n,none⟩ K x:=by obtain⟨c,e,fr,a,b,d,r⟩:=h.out;obtain⟨hi,_⟩:=we.1 hx;have hm:xs.length=m:=r.1;have h1:(i+1)*K.n≤m*K.n:=wh _ (by omega);rw[w7] at h1;have d':p.off+m*K.n≤c.size:=d;refine⟨c,e,fr,rfl,b,?_,?_⟩;simp only;omega;have:=r.2.get hx;rwa [show(bG m K).n=m*K.n from rfl,df (by omega)] at this
end Go.Sim
namespace Go.Sim
open Go
theorem fA {w:World} (h:w.heap[b]? =some o):b<w.heap.size:=(Array.getElem?_eq_some_iff.1 h).1
inductive SV:Type 1 where
 |raw (v:Value)
 |val {α:Type} (K:Kd α) (x:α)
 |ptr {α:Type} (K:Kd α) (x:α)
 |tup (l:List SV)
 |fn (f:FuncId) (l:List SV)
 mutual
def SV.ok (F:Fz) (v:Value):SV→Prop| .raw u=>v=u| .val K x=>K.val F v x| .ptr K x=>∃p,v= .pointer (some p)∧pG F p K x| .tup l=>∃vs,v= .tuple vs.toArray∧SV.oks F vs l| .fn f l=>∃vs:List Value,v= .func (.func f) #[] vs.toArray∧SV.oks F vs l
def SV.oks (F:Fz):List Value→List SV→Prop|[],[]=>True|v::vs,s::l=>SV.ok F v s∧SV.oks F vs l|_,_=>False
end
 mutual
theorem Ao (hg:F≤G):∀{s:SV} {v:Value},SV.ok F v s→SV.ok G v s| .raw u,v,h=>by simp only[SV.ok] at*;exact h| .val K x,v,h=>by simp only[SV.ok] at*;exact h.mono hg| .ptr K x,v,h=>by simp only[SV.ok] at*;exact h.imp λp ⟨a,b⟩=>⟨a,b.mono hg⟩| .tup l,v,h=>by simp only[SV.ok] at*;exact h.imp λvs ⟨a,b⟩=>⟨a,AB hg b⟩| .fn f l,v,h=>by simp only[SV.ok] at*;exact h.imp λvs ⟨a,b⟩=>⟨a,AB hg b⟩
theorem AB (hg:F≤G):∀{l:List SV} {vs:List Value},SV.oks F vs l→SV.oks G vs l|[],[],_=>by simp only[SV.oks]|s::l,v::vs,h=>by simp only[SV.oks] at*;exact⟨Ao hg h.1,AB hg h.2⟩|[],_::_,h=>by simp only[SV.oks] at h|_::_,[],h=>by simp only[SV.oks] at h
end
inductive bJ:Type 1 where
 |box {α:Type} (K:Kd α) (b:Nat) (T:TypeId) (x:α)
 |own {α:Type} (K:Kd α) (v:Value) (e:TypeId) (xs:List α)
 |mp {α β:Type} (K:Kd α) (V:Kd β) (b:Nat) (ps:List (α×β))
 |itr {α β:Type} (K:Kd α) (V:Kd β) (b:Nat) (left:List (α×β)) (cur:Option (α×β))
 |any (r:cD→Prop)
def F3 {α β:Type} (K:Kd α) (V:Kd β) (F:Fz) (r:Nat) (left:List (α×β)) (d:Option (α×β)) (h:cD):Prop:=(left=[]∧d=none∧h=cD.one r (.mapIter none 0 #[] 0))∨∃b es a seen,F.blk b=some (.map es a)∧CN es a∧CU K V F (es.toList.filter λe=> !seen.contains e.born) left∧h=cD.one r (.mapIter (some b) a seen a)∧∀p,d=some p→∃(e:MapEntry) (c:Array Nat),seen=c.push e.born∧e∈es.toList∧K.val F e.key p.1∧V.val F e.val p.2
def bJ.holds (F:Fz) (h:cD):bJ→Prop| .box K b T x=>∃cs,K.rd F cs x∧h=cD.one b (.cells cs.toArray T (0,0))| .own K v e xs=>(v= .slice none 0 0∧xs=[]∧h=cD.emp)∨∃g cap a,v= .slice (some ⟨g,0,none⟩) xs.length cap∧h=cD.one g (.cells a e (0,0))∧xs.length≤cap∧cap≤maxLen∧a.size=cap*K.n∧bd K F (a.toList.take (xs.length*K.n)) xs| .mp K V b ps=>∃es c,(CU K V F es.toList ps∧CN es c)∧h=cD.one b (.map es c)| .itr K V b left a=>F3 K V F b left a h| .any r=>r h
theorem bJ.mono (hg:F≤G):∀{r:bJ},r.holds F h→r.holds G h| .box K b T x,⟨cs,a,e⟩=>⟨cs,K.mono hg a,e⟩| .own K v e xs,.inl a=> .inl a| .own K v e xs,.inr ⟨g,cap,d,a1,a2,a3,a4,a5,a6⟩=> .inr ⟨g,cap,d,a1,a2,a3,a4,a5,a6.mono hg⟩| .mp K V b ps,⟨es,clock,a,e⟩=>⟨es,clock,⟨a.1.mono hg,a.2⟩,e⟩| .itr K V b left d,.inl a=> .inl a| .itr K V b left d,.inr ⟨m,es,clock,seen,a,s,rd,e,c⟩=> .inr ⟨m,es,clock,seen,hg.blk _ _ a,s,rd.mono hg,e,λp hp=>let ⟨x,y,a,b,k,v⟩:=c p hp;⟨x,y,a,b,k.mono hg,v.mono hg⟩⟩| .any r,a=>a
def gI (G:Fz):Fz→World→List bJ→Prop|F,w,[]=>F.on w|F,w,r::L=>∃h:cD,r.holds G h∧oB F h∧gI G (F.add h) w L
def St (F:Fz) (w:World) (L:List bJ):Prop:=gI F F w L
theorem gI.on {F:Fz} (h:gI G F w L):F.on w:=by induction L generalizing F with|nil=>exact h|cons r L ih=>obtain⟨f,_,_,h'⟩:=h;have:=ih h';exact⟨λb o e=>this.blk b o ((F.le_add f).blk b o e),this.os,this.tape,this.output⟩
theorem St.on {F:Fz} (h:St F w L):F.on w:=gI.on h
theorem gI.mono (hg:G≤G') (h:gI G F w L):gI G' F w L:=by induction L generalizing F with|nil=>exact h|cons r L ih=>obtain⟨f,a,b,c⟩:=h;exact⟨f,bJ.mono hg a,b,ih c⟩
theorem gI.drew {w:World} (h:gI G F w L):gI G F {w with drawn:=w.drawn+1} L:=by induction L generalizing F with|nil=>exact⟨h.blk,h.os,h.tape,h.output⟩|cons r L ih=>obtain⟨f,a,b,h'⟩:=h;exact⟨f,a,b,ih h'⟩
structure yG (w w':World) (h:cD):Prop where
 os:w'.os=w.os
 tape:w'.tape=w.tape
 output:w'.output=w.output
 blk:∀b,b<w.heap.size→h b=none→w'.heap[b]? =w.heap[b]?
theorem gI.change {F:Fz} {w w':World} (hs:gI G (F.add h) w L) (ha:oB F h) (hc:yG w w' h) (i:∀b,h' b≠none→h b≠none∨w.heap.size≤b) (j:∀b o,h' b=some o→w'.heap[b]? =some o):gI G (F.add h') w' L:=by induction L generalizing F with|nil=>have a:(F.add h).on w:=hs;refine⟨λb o e=>?_,hc.os.trans a.os,hc.tape.trans a.tape,hc.output.trans a.output⟩;rcases BG e with e|⟨_,e⟩;have hb:=a.blk b o ((F.le_add h).blk b o e);(have hn:h b=none:=by cases hh:h b with|none=>rfl|some q=>have:=ha b (by simp[hh]);rw[e] at this;cases this);exact(hc.blk b (fA hb) hn).trans hb;exact j b o e|cons r L ih=>obtain⟨k,hr,hk,a⟩:=hs;have g:=a.on;have c:∀b,k b≠none→F.blk b=none∧h b=none:=λb hb=>Ak.1 (hk b hb);(have lt:∀b,k b≠none→b<w.heap.size:=λb hb=>by cases d:k b with|none=>exact absurd d hb|some o=>(have:((F.add h).add k).blk b=some o:=by have:=(c b hb);simp[Fz.add,this.1,this.2,d]);exact fA (g.blk b o this));(have f:∀b,k b≠none→h' b=none:=λb hb=>by cases hh:h' b with|none=>rfl|some q=>rcases i b (by simp[hh]) with x|x;exact absurd (c b hb).2 x;exact absurd (lt b hb) (by omega));refine⟨k,hr,λb hb=>Ak.2 ⟨(c b hb).1,f b hb⟩,?_⟩;rw[fO f];rw[fO (λb hb=>(c b hb).2)] at a;refine ih a (λb hb=>?_);cases d:k b with|none=>exact Ak.2 ⟨ha b hb,d⟩|some q=>exact absurd (c b (by simp[d])).2 hb
theorem gI.fresh {F:Fz} {w:World} (h:gI G F w L) (b:Nat) (hb:w.heap.size≤b):F.blk b=none:=by cases e:F.blk b with|none=>rfl|some o=>have:=fA (h.on.blk b o e);omega
theorem BH {F:Fz} {w w':World} (hs:gI G F w L) (h':cD) (hc:yG w w' cD.emp) (hn:∀b,h' b≠none→w.heap.size≤b) (a:∀b o,h' b=some o→w'.heap[b]? =some o):oB F h'∧gI G (F.add h') w' L:=by refine⟨λb hb=>hs.fresh b (hn b hb),?_⟩;(have c:gI G (F.add cD.emp) w L:=by rw[Av];exact hs);exact c.change (λb hb=>absurd rfl hb) hc (λb hb=> .inr (hn b hb)) a
theorem Bd {w w':World} (hs:St F w L) (h':cD) {r:bJ} (hr:r.holds F h') (hc:yG w w' cD.emp) (hn:∀b,h' b≠none→w.heap.size≤b) (c:∀b o,h' b=some o→w'.heap[b]? =some o):St F w' (r::L):=let ⟨a,b⟩:=BH hs h' hc hn c;⟨h',hr,a,b⟩
theorem BI {F:Fz} {w w':World} (hs:St F w L) (h':cD) (hc:yG w w' cD.emp) (hn:∀b,h' b≠none→w.heap.size≤b) (c:∀b o,h' b=some o→w'.heap[b]? =some o):F≤F.add h'∧St (F.add h') w' L:=let ⟨a,b⟩:=BH hs h' hc hn c;⟨F.le_add h',b.mono (F.le_add h')⟩
theorem St.turn {F:Fz} {w w':World} {r r':bJ} (hs:St F w (r::L)) (step:∀h,r.holds F h→(∀b o,h b=some o→w.heap[b]? =some o)→∃h',r'.holds F h'∧yG w w' h∧(∀b,h' b≠none→h b≠none∨w.heap.size≤b)∧(∀b o,h' b=some o→w'.heap[b]? =some o)):St F w' (r'::L):=by obtain⟨h,hr,ha,a⟩:=hs;have c:∀b o,h b=some o→w.heap[b]? =some o:=λb o e=>a.on.blk b o (by have:=ha b (by simp[e]);simp[Fz.add,this,e]);obtain⟨h',hr',hc,hd,ho⟩:=step h hr c;refine⟨h',hr',λb hb=>?_,a.change ha hc hd ho⟩;rcases hd b hb with x|x;exact ha b x;cases e:F.blk b with|none=>rfl|some o=>have:=fA (a.on.blk b o ((F.le_add h).blk b o e));omega
theorem St.head {w:World} {r:bJ} (hs:St F w (r::L)):∃h,r.holds F h∧(∀b o,h b=some o→w.heap[b]? =some o):=by obtain⟨h,hr,ha,hs'⟩:=hs;exact⟨h,hr,λb o e=>hs'.on.blk b o (by have:=ha b (by simp[e]);simp[Fz.add,this,e])⟩
theorem gI.swap {F:Fz} (hs:gI G F w (r::q::L)):gI G F w (q::r::L):=by obtain⟨h,hr,ha,k,hq,hk,c⟩:=hs;have a:∀b,k b≠none→F.blk b=none∧h b=none:=λb hb=>Ak.1 (hk b hb);refine⟨k,hq,λb hb=>(a b hb).1,h,hr,λb hb=>Ak.2 ⟨ha b hb,?_⟩,?_⟩;(cases e:k b with|none=>rfl|some o=>exact absurd (a b (by simp[e])).2 hb);rw[fO (λb hb=>?_)];exact c;cases e:k b with|none=>rfl|some o=>exact absurd (a b (by simp[e])).2 hb
theorem gI.perm {L:List bJ} (p:L.Perm L'):∀F,gI G F w L→gI G F w L':=by
 induction p with
 |nil=>exact λ_ h=>h
 |cons x _ ih=>exact λ_ ⟨f,a,b,c⟩=>⟨f,a,b,ih _ c⟩
 |swap x y l=>exact λ_ h=>h.swap
 |trans _ _ d e=>exact λF h=>e F (d F h)
theorem St.perm {L:List bJ} (hs:St F w L) (p:L.Perm L'):St F w L':=gI.perm p F hs
theorem St.drop {F:Fz} (hs:St F w (r::L)):St F w L:=by obtain⟨h,hr,ha,hs'⟩:=hs;have:gI F (F.add cD.emp) w L:=hs'.change ha ⟨rfl,rfl,rfl,λ_ _ _=>rfl⟩ (λb hb=>absurd rfl hb) (λb o e=>by cases e);rwa [Av] at this
theorem St.freeze {F:Fz} {r:bJ} (hs:St F w (r::L)):∃h,r.holds (F.add h) h∧oB F h∧F≤F.add h∧St (F.add h) w L:=by obtain⟨h,hr,ha,hs'⟩:=hs;exact⟨h,bJ.mono (F.le_add h) hr,ha,F.le_add h,gI.mono (F.le_add h) hs'⟩
def bJ.fix (F:Fz) (r:bJ):bJ:= .any λh=>r.holds F h
theorem gI.fix (G G':Fz):∀{L:List bJ} {F:Fz},gI G F w L↔gI G' F w (L.map (bJ.fix G))|[],F=>Iff.rfl|r::L,F=>by simp only[wS,gI];exact⟨λ⟨h,a,b,c⟩=>⟨h,a,b,(gI.fix G G').1 c⟩,λ⟨h,a,b,c⟩=>⟨h,a,b,(gI.fix G G').2 c⟩⟩
def look:List (Nat×SV)→Nat→Option SV|[],_=>none|(k,v)::E,t=>cond (Nat.beq k t) (some v) (look E t)
theorem bS (k:Nat) (v:SV) (E:List (Nat×SV)) (t:Nat):look ((k,v)::E) t=if k=t then some v else look E t:=by simp only[look];by_cases h:k=t;simp[h];(have:Nat.beq k t=false:=by cases hb:Nat.beq k t with|false=>rfl|true=>exact absurd (wW hb) h);simp[this,h]
structure Env (F:Fz) (a:Act) (n:Nat) (E:List (Nat×SV)):Prop where
 defers:a.defers=[]
 size:a.tmps.size=n
 at_:∀t s,look E t=some s→∃v,a.tmps[t]? =some v∧s.ok F v
theorem Env.mono (h:Env F a n E) (hg:F≤G):Env G a n E:=⟨h.defers,h.size,λt s e=>let ⟨v,a,b⟩:=h.at_ t s e;⟨v,a,Ao hg b⟩⟩
def ev (E:List (Nat×SV)):Operand→Option SV| .tmp t=>look E t| .const v=>some (.raw v)| .global g=>(match py g px with|some (k,xs)=>some (.ptr (bG xs.length (bB k)) xs)|none=>some (.raw (.pointer (some ⟨g,0,none⟩))))| .func f=>some (.raw (.func (.func f) #[] #[]))
theorem Env.eval {F:Fz} {a:Act} (h:Env F a n E) {s:SV} (e:ev E x=some s):s.ok F (a.eval x):=by cases x with|tmp t=>obtain⟨v,h1,h2⟩:=h.at_ t s e;simpa[Act.eval,yz,h1] using h2|const u=>cases e;simp only[SV.ok];rfl|global g=>simp only[ev] at e;split at e;rename_i k xs hg;cases e;obtain⟨T,fr,hb⟩:=F.glob.on g k xs hg;simp only[SV.ok];refine⟨⟨g,0,none⟩,rfl,⟨⟨_,T,fr,rfl,hb,?_,?_⟩⟩⟩;simp[bG,bB];(have:∀ys:List Int,bd (bB k) F (ys.map (Value.int k ·)) ys:=λys=>by induction ys with|nil=>rfl|cons y ys ih=>exact⟨[.int k y],_,rfl,rfl,ih⟩);have h2:=this xs;(have e2:((xs.map (Value.int k ·)).toArray.toList.drop 0).take (bG xs.length (bB k)).n=xs.map (Value.int k ·):=by simp[bG,bB,wn]);exact⟨rfl,by rw[e2];exact h2⟩;cases e;simp only[SV.ok];rfl|func f=>cases e;simp only[SV.ok];rfl
theorem Env.raw {a:Act} (h:Env F a n E) (e:ev E x=some (.raw v)):a.eval x=v:=by have:=h.eval e;simpa only[SV.ok] using this
theorem Env.put {a:Act} (h:Env F a n E) (hd:Nat.blt d n=true) {s:SV} (hv:s.ok F v):Env F (a.put (some d) v) n ((d,s)::E):=by(have b:d<n:=by simpa[xr] using hd);refine⟨h.defers,by simp[Act.put,h.size],λt u e=>?_⟩;rw[bS] at e;simp only[Act.put];by_cases hk:d=t;subst hk;simp only[zr] at e;cases e;exact⟨v,by rw[xb (by rw[h.size];exact b)],hv⟩;rw[xv hk] at e;rw[xW hk];exact h.at_ t u e
theorem Env.sub (h:Env F a n E) (hs:∀t v,look E' t=some v→look E t=some v):Env F a n E':=⟨h.defers,h.size,λt v e=>h.at_ t v (hs t v e)⟩
theorem gR (E:List (Nat×SV)):∀t v,look [] t=some v→look E t=some v:=λ_ _ h=>by cases h
theorem aM (h:look E k=some u) (r:∀t v,look E' t=some v→look E t=some v):∀t v,look ((k,u)::E') t=some v→look E t=some v:=λt v e=>by rw[bS] at e;split at e;rename_i hk;subst hk;rw[h];exact e;exact r t v e
def xE:Nat→List SV→List (Nat×SV)|_,[]=>[]|i,s::l=>(i,s)::xE (i+1) l
theorem m6:∀{l:List SV} {vs:List Value} {i t:Nat} {s:SV},SV.oks F vs l→look (xE i l) t=some s→i≤t∧∃v,vs[t - i]? =some v∧s.ok F v|[],_,_,_,_,_,h=>by cases h|s0::l,[],_,_,_,h,_=>by simp only[SV.oks] at h|s0::l,v::vs,i,t,s,h,e=>by simp only[SV.oks] at h;rw[xE,bS] at e;split at e;rename_i hk;subst hk;cases e;exact⟨wy _,v,by simp,h.1⟩;rename_i hk;obtain⟨h1,u,h2,h3⟩:=m6 h.2 e;refine⟨by omega,u,?_,h3⟩;rw[show t - i=(t - (i+1))+1 by omega];simpa using h2
theorem ii:∀{l:List SV} {vs:List Value},SV.oks F vs l→vs.length=l.length|[],[],_=>rfl|s::l,v::vs,h=>by simp only[SV.oks] at h;simp[ii h.2]|[],_::_,h=>by simp only[SV.oks] at h|_::_,[],h=>by simp only[SV.oks] at h
theorem Env.start {vs:List Value} {l:List SV} (h:SV.oks F vs l) (m:Nat):Env F {tmps:=vs.toArray++Array.replicate m undef,defers:=[]} (l.length+m) (xE 0 l):=by have hl:=ii h;refine⟨rfl,by simp[hl],λt s e=>?_⟩;obtain⟨_,v,h2,h3⟩:=m6 h e;refine⟨v,?_,h3⟩;(have a:t<vs.length:=by simpa using(we.1 h2).1);rw[Array.getElem?_append_left (by simpa using a)];simpa using h2
def bx (F0:Fz) (n:Nat) (E:List (Nat×SV)) (L:List bJ) (X:Act→World→Prop):Prop:=∀F a w,F0≤F→Env F a n E→St F w L→X a w
def Cl (F:Fz) (L:List bJ) (w:World):Prop:=∃G,F≤G∧St G w L
def ea (P:Program) (n:Nat) (E:List (Nat×SV)) (L:List bJ) (o:Oper) (s:SV):Prop:=∀F a,Env F a n E→∃v,s.ok F v∧∀w,Cl F L w→o.quietAt P a (Cl F L) w v
def Ok (P:Program) (f:FuncId) (a:List SV) (L:List bJ) (s:SV) (L':List bJ):Prop:=∀F w vs,SV.oks F vs a→St F w L→Calls P f vs.toArray w λe w'=>∃G v,e= .returned v∧F≤G∧St G w' L'∧s.ok G v
theorem Bs {o:Oper} {a:Act} (h:∀a w,K a w→K' a w) (hq:∀e a w,Q e a w→Q' e a w)
  (hh:o.wp P a w K Q):o.wp P a w K' Q':=by
 unfold Oper.wp at*
 generalize (execOp a.eval o).run P w=r at*
 cases r with
 |ok n w'=>
  cases n<;>simp only[Oper.upon] at hh⊢
  case value v=>exact h _ _ hh
  case skip=>exact h _ _ hh
  case defer d=>exact h _ _ hh
  case row r args=>exact Rows.mono hh (λ_ _ he=>h _ _ he)
  case enter f args=>
   refine Calls.mono hh (λe w'' he=>?_)
   cases e with
   |returned v=>exact h _ _ he
   |panicked c=>exact hq _ _ _ he
   |outgrown=>obtain⟨a',w',x⟩:=he;exact⟨a',w',hq _ _ _ x⟩
  all_goals exact hh
 |halt x w'=>cases x<;>simp only[Oper.upon] at hh⊢<;>first|exact hq _ _ _ hh|exact hh
section
variable {P:Program} {ops:Array Oper} {Q:Exit→Act→World→Prop} {rest:List Oper} {F0:Fz} {n:Nat} {E:List (Nat×SV)} {L:List bJ}
variable {d:Nat} {op:Op} {ty:TypeId} {pos:String} {aft:Array Edge} {s:SV}
theorem zQ {o:Oper} (hg:o.guard=none) (h:∀F a w,F0≤F→Env F a n E→St F w L→o.wp P a w (wpList P c Q b) Q):bx F0 n E L (wpList P c Q (o::b)):=λF a w h0 hE hS=>wpList_plain hg λK hK=>Bs hK (λ_ _ _ q=>q) (h F a w h0 hE hS)
theorem Ab (h:ea P n E L ⟨some d,op,ty,pos,aft,none⟩ s) (hd:Nat.blt d n=true) (k:bx F0 n ((d,s)::E) L (wpList P ops Q rest)):
  bx F0 n E L (wpList P ops Q (⟨some d,op,ty,pos,aft,none⟩::rest)):=
 zQ rfl λF a w h0 hE hS=>by
  obtain⟨v,hv,this⟩:=h F a hE
  have this:=this w ⟨F,A5 F,hS⟩
  unfold Oper.quietAt at this
  unfold Oper.wp
  generalize (execOp a.eval (⟨some d,op,ty,pos,aft,none⟩:Oper)).run P w=r at this
  cases r with
  |halt x w'=>exact this.elim
  |ok nx w'=>
   cases nx<;>simp only[Oper.quietUpon] at this<;>simp only[Oper.upon]
   case value u=>obtain⟨rfl,rfl⟩:=this;exact k _ _ _ h0 (hE.put hd hv) hS
   case skip=>obtain⟨rfl,rfl⟩:=this;exact k _ _ _ h0 (hE.put hd hv) hS
   case enter f args=>
    obtain⟨rfl,hc⟩:=this
    exact hc.mono λe w'' ⟨he,G,hg,hw⟩=>by subst he;exact k _ _ _ (Au h0 hg) ((hE.mono hg).put hd (Ao hg hv)) hw
theorem Cp (hj:((c[j]?).bind (·.dst))=some g) (hb:look E g=some (.raw (.bool b))) (k:bx F0 n E L (wpList P c Q (⟨o,op,ty,pos,aft,none⟩::rest))):bx F0 n E L (wpList P c Q (⟨o,op,ty,pos,aft,some (j,b)⟩::rest)):=λF a w h0 hE hS=>by have hk:=k F a w h0 hE hS;obtain⟨v,hv,he⟩:=hE.at_ g _ hb;simp only[SV.ok] at he;subst he;(have hy:yielded c a.tmps j=some b:=by simp[yielded,hj,hv]);unfold wpList at hk⊢;simp only[Region.wanted,zr,hy,yO] at hk⊢;exact hk
theorem bx.skip (hj:((ops[j]?).bind (·.dst))=some g) (hb:look E g=some (.raw (.bool (!b)))) (hu:Nat.blt u n=true) (k:bx F0 n ((u,.raw undef)::E) L (wpList P ops Q rest)):bx F0 n E L (wpList P ops Q (⟨some u,op,ty,pos,aft,some (j,b)⟩::rest)):=λF a w h0 hE hS=>by obtain⟨v,hv,he⟩:=hE.at_ g _ hb;simp only[SV.ok] at he;subst he;(have hy:yielded ops a.tmps j=some (!b):=by simp[yielded,hj,hv]);unfold wpList;rw[xv (by simp[Region.wanted,hy])];exact k _ _ _ h0 (hE.put hu (by simp only[SV.ok])) hS
theorem bx.seq {x y:Code} (k:bx F0 n E L (x.wp P (Exit.then (y.wp P Q) Q))):bx F0 n E L ((Code.seq x y).wp P Q):=λF a w h0 hE hS=>wp_seq (k F a w h0 hE hS)
theorem bx.region {id:Nat} {l:List Oper} (k:bx F0 n E L (wpList P l.toArray Q l)):bx F0 n E L ((Code.region id l.toArray false).wp P Q):=λF a w h0 hE hS=>wp_region_lit (k F a w h0 hE hS)
theorem bx.nil (k:bx F0 n E L (Q .normal)):bx F0 n E L (wpList P a Q []):=k
theorem AR (k:bx F0 n E L (Q .normal)):bx F0 n E L (Code.skip.wp P Q):=λF a w h0 hE hS=>wp_skip (k F a w h0 hE hS)
theorem bx.exit {id:Nat} (k:bx F0 n E L (Q (.exit id))):bx F0 n E L ((Code.exit id).wp P Q):=λF a w h0 hE hS=>wp_exit (k F a w h0 hE hS)
theorem Be (k:bx F0 n E L (Q .ret)):bx F0 n E L (Code.ret.wp P Q):=λF a w h0 hE hS=>wp_ret (k F a w h0 hE hS)
theorem bx.block {id:Nat} {c:Code} (k:bx F0 n E L (c.wp P (Exit.inBlock id Q))):bx F0 n E L ((Code.block id c).wp P Q):=λF a w h0 hE hS=>wp_block (k F a w h0 hE hS)
theorem AG {x y:Code} (hX:ev E X=some (.raw (.bool c))) (kt:c=true→bx F0 n E L (x.wp P Q)) (kf:c=false→bx F0 n E L (y.wp P Q)):bx F0 n E L ((Code.cond X x y).wp P Q):=λF a w h0 hE hS=>wp_cond_split (hE.raw hX) (λh=>kt h F a w h0 hE hS) (λh=>kf h F a w h0 hE hS)
theorem Cb {x y:Code} (hF:(bif c then A else B)=some r) (hX:ev E X=some (.raw (.bool c))) (kt:A=some r→bx F0 n E L (x.wp P Q)) (kf:B=some r→bx F0 n E L (y.wp P Q)):bx F0 n E L ((Code.cond X x y).wp P Q):=AG hX (λh=>kt (by rw[h] at hF;exact hF)) (λh=>kf (by rw[h] at hF;exact hF))
theorem A8 (hs:∀t v,look E' t=some v→look E t=some v) (k:bx F0 n E' L X):bx F0 n E L X:=λF a w h0 hE hS=>k F a w h0 (hE.sub hs) hS
theorem bx.perm (p:L.Perm L') (k:bx F0 n E L' X):bx F0 n E L X:=λF a w h0 hE hS=>k F a w h0 hE (hS.perm p)
theorem BJ (k:bx F0 n E L X):bx F0 n E (r::L) X:=λF a w h0 hE hS=>k F a w h0 hE hS.drop
theorem Cq {fn:Func} {c:Code} {a:List SV} (m:Nat) (E0:List (Nat×SV)) (hf:P.funcs[f]? =some fn) (hb:fn.body=some c) (hn:fn.ntmps=m) (hl:Nat.ble a.length m=true) (hE:xE 0 a=E0) (k:∀F0,bx F0 m E0 L (c.wp P (bodyPost P fn λe w'=>∃G v,e= .returned v∧F0≤G∧St G w' L'∧s.ok G v))):Ok P f a L s L':=λF w vs hv hS=>by refine calls_of_wp hf hb ?_;have d:=ii hv;have g:=xo hl;(have he:fn.ntmps - vs.toArray.size=m - a.length:=by simp[hn,d]);rw[he];(have h2:a.length+(m - a.length)=m:=by omega);have b:=Env.start hv (m - a.length);rw[h2,hE] at b;exact k F F _ w (A5 F) b hS
end
end Go.Sim
namespace Go.Sim
open Go
def eH {α:Type} (s:SV) (K:Kd α) (x:α):Prop:=∀F v,s.ok F v→K.val F v x
theorem bH:eH (.val K x) K x:=λF v h=>by simpa only[SV.ok] using h
theorem dG:eH (.raw (.int k x)) (bB k) x:=λF v h=>by simp only[SV.ok] at h;subst h;exact lx.2 rfl
theorem GC:eH (.raw (.bool x)) jg x:=λF v h=>by simp only[SV.ok] at h;subst h;exact pL.2 rfl
theorem gE:eH (.raw (.slice none 0 0)) (cI K) []:=λF v h=>by simp only[SV.ok] at h;subst h;exact⟨[.slice none 0 0],⟨none,0,rfl,wy _,.inl rfl⟩,rfl⟩
section
variable {P:Program} {ops:Array Oper} {Q:Exit→Act→World→Prop} {rest:List Oper} {F0:Fz} {n:Nat} {E:List (Nat×SV)} {L:List bJ}
variable {d:Nat} {op:Op} {ty:TypeId} {pos:String} {aft:Array Edge} {s:SV}
theorem zX (h:∀F a,Env F a n E→∃v,s.ok F v∧∀w,(execOp a.eval o).run P w= .ok (.value v) w):ea P n E L o s:=λF a hE=>by obtain⟨v,hv,hw⟩:=h F a hE;exact⟨v,hv,λw _=>by unfold Oper.quietAt;rw[hw w];exact⟨rfl,rfl⟩⟩
theorem Ac (h:∀F a,Env F a n E→∀w,(execOp a.eval o).run P w= .ok (.value v) w):ea P n E L o (.raw v):=zX λF a hE=>⟨v,by simp only[SV.ok],h F a hE⟩
theorem ea.move (h:ev E x=some s):ea P n E L ⟨some d,.move x,ty,pos,aft,none⟩ s:=zX λF a hE=>⟨_,hE.eval h,λw=>by simp[execOp]⟩
theorem B3 (h:ev E x=some s):ea P n E L ⟨some d,.assign x,ty,pos,aft,none⟩ s:=zX λF a hE=>⟨_,hE.eval h,λw=>by simp[execOp]⟩
theorem ea.pick (h:ev E x=some (.raw (.bool c))) (h1:c=true→ev E y=some s) (h2:c=false→ev E z=some s):ea P n E L ⟨some d,.pick x y z,ty,pos,aft,none⟩ s:=zX λF a hE=>by cases c with|true=>exact⟨_,hE.eval (h1 rfl),λw=>by simp[execOp,hE.raw h,asBool]⟩|false=>exact⟨_,hE.eval (h2 rfl),λw=>by simp[execOp,hE.raw h,asBool]⟩
def cJ (k:IntKind) (x y:Int):Int:=k.wrap ((BitVec.ofInt k.bits x&&&BitVec.ofInt k.bits y).toNat)
def kC (k:IntKind) (x y:Int):Int:=k.wrap ((BitVec.ofInt k.bits x|||BitVec.ofInt k.bits y).toNat)
def bC (k:IntKind) (x y:Int):Int:=k.wrap ((BitVec.ofInt k.bits x^^^BitVec.ofInt k.bits y).toNat)
def D_ (k:IntKind) (x y:Int):Int:=k.wrap ((BitVec.ofInt k.bits x&&&~~~BitVec.ofInt k.bits y).toNat)
def oJ (k:IntKind) (x:Int):Int:=k.wrap ((BitVec.ofInt k.bits (if k.signed then -1 else k.max)^^^BitVec.ofInt k.bits x).toNat)
def c5 (k:IntKind) (x y:Int):Int:=k.wrap (x*2^min y.toNat k.bits)
def cv (k:IntKind) (x y:Int):Int:=x.fdiv (2^min y.toNat k.bits)
def uB (op:BinOp) (k:IntKind) (x y:Int):Option Value:=match op with| .add=>some (.int k (k.wrap (x+y)))| .sub=>some (.int k (k.wrap (x - y)))| .mul=>some (.int k (k.wrap (x*y)))| .and=>some (.int k (cJ k x y))| .or=>some (.int k (kC k x y))| .xor=>some (.int k (bC k x y))| .andNot=>some (.int k (D_ k x y))| .eql=>some (.bool (x==y))| .neq=>some (.bool (x != y))| .lss=>some (.bool (decide (x<y)))| .leq=>some (.bool (decide (x≤y)))| .gtr=>some (.bool (decide (x>y)))| .geq=>some (.bool (decide (x≥y)))|_=>none
theorem BB (hX:ev E X=some (.raw (.int k x))) (hY:ev E Y=some (.raw (.int k y))) (hv:uB b k x y=some v):ea P n E L ⟨some d,.binOp b t X Y u,ty,pos,aft,none⟩ (.raw v):=Ac λF a hE w=>by have e1:=hE.raw hX;have e2:=hE.raw hY;cases b<;>simp only[uB,Option.some.injEq,reduceCtorEq] at hv<;>subst hv<;>simp[execOp,e1,e2,eqGuard,binOp,Op.intArith,Op.intBits,Op.intCmp,cJ,kC,bC,D_]
def Eu (op:BinOp) (k:IntKind) (x y:Int):Option Value:=match op with| .quo=>some (.int k (k.wrap (x.tdiv y)))| .rem=>some (.int k (x.tmod y))|_=>none
theorem ea.quo (hX:ev E X=some (.raw (.int k x))) (hY:ev E Y=some (.raw (.int k y))) (hy:y≠0) (hv:Eu b k x y=some v):ea P n E L ⟨some d,.binOp b t X Y u,ty,pos,aft,none⟩ (.raw v):=Ac λF a hE w=>by have e1:=hE.raw hX;have e2:=hE.raw hY;cases b<;>simp only[Eu,Option.some.injEq,reduceCtorEq] at hv<;>subst hv<;>simp[execOp,e1,e2,eqGuard,binOp,Op.intDiv,hy]
def zW:=@ea.quo
def FM (op:BinOp) (k:IntKind) (x y:Int):Option Value:=match op with| .shl=>some (.int k (c5 k x y))| .shr=>some (.int k (cv k x y))|_=>none
theorem zU (hX:ev E X=some (.raw (.int k x))) (hY:ev E Y=some (.raw (.int k' y))) (hy:0≤y) (hv:FM b k x y=some v):ea P n E L ⟨some d,.binOp b t X Y u,ty,pos,aft,none⟩ (.raw v):=Ac λF a hE w=>by have e1:=hE.raw hX;have e2:=hE.raw hY;(have c:¬y<0:=by omega);cases b<;>simp only[FM,Option.some.injEq,reduceCtorEq] at hv<;>subst hv<;>simp[execOp,e1,e2,eqGuard,binOp,Op.shift,c,c5,cv]
theorem ea.not (hX:ev E X=some (.raw (.bool c))):ea P n E L ⟨some d,.unOp .not t X,ty,pos,aft,none⟩ (.raw (.bool (!c))):=Ac λF a hE w=>by simp[execOp,hE.raw hX,Op.unary]
theorem B4 (hX:ev E X=some (.raw (.int k x))):ea P n E L ⟨some d,.unOp .xor t X,ty,pos,aft,none⟩ (.raw (.int k (oJ k x))):=Ac λF a hE w=>by simp[execOp,hE.raw hX,Op.unary,Op.intBits,oJ]
theorem AE {k:IntKind} (hs:(P.underlying q).isSome=true) (ht:P.underlying t=some (.int k)) (hX:ev E X=some (.raw (.int k' x))):ea P n E L ⟨some d,.convert q t X,ty,pos,aft,none⟩ (.raw (.int k (k.wrap x))):=Ac λF a hE w=>by obtain⟨ds,b⟩:=Option.isSome_iff_exists.1 hs;simp[execOp,hE.raw hX,convert,wo b,wo ht,Conv.intToInt]
theorem ea.len {xs:List α} (ht:P.underlying t=some (.slice e)) (hX:ev E X=some s) (hr:eH s (cI K) xs):ea P n E L ⟨some d,.call ⟨.builtin .len,#[X],#[t]⟩,ty,pos,aft,none⟩ (.raw (.int .i64 xs.length)):=Ac λF a hE w=>by obtain⟨a0,cap,he,_⟩:=cI.at_ (hr F _ (hE.eval hX));simp[execOp,resolve,invoke,builtin,Builtin.len_,wo ht,he,goInt]
theorem Ap (hX:ev E X=some (.tup l)) (hi:l[i]? =some s):ea P n E L ⟨some d,.extract X i,ty,pos,aft,none⟩ s:=zX λF a hE=>by have:=hE.eval hX;simp only[SV.ok] at this;obtain⟨vs,he,ho⟩:=this;(have:∀(l:List SV) (vs:List Value) (i:Nat),SV.oks F vs l→l[i]? =some s→∃v,vs[i]? =some v∧s.ok F v:=by intro l;induction l with|nil=>intro vs i _ h;cases h|cons t l ih=>intro vs i h hi;cases vs with|nil=>simp only[SV.oks] at h|cons v vs=>simp only[SV.oks] at h;cases i with|zero=>simp at hi;subst hi;exact⟨v,rfl,h.1⟩|succ i=>simpa using ih vs i h.2 (by simpa using hi));obtain⟨v,h1,h2⟩:=this l vs i ho hi;exact⟨v,h2,λw=>by simp[execOp,he,Instr.extract,h1]⟩
def rE (P:Program) (T:TypeId):Option Bool:=match P.underlying T with|some (.struct _)|some (.array _ _)=>some true|some _=>some false|none=>none
structure KT {α:Type} (P:Program) (T:TypeId) (K:Kd α):Prop where
 size:(P.info? T).map (·.size)=some K.n
 agg:rE P T=some K.agg
theorem lY (h:rE P T=some b) (w:World):(isAgg T).run P w= .ok b w:=by unfold rE at h;cases hu:P.underlying T with|none=>rw[hu] at h;cases h|some ds=>unfold isAgg;rw[wv,wo hu w];rw[hu] at h;cases ds<;>simp_all
theorem vz (h:rE P T=some b):∃ds,P.underlying T=some ds:=by unfold rE at h;cases hu:P.underlying T with|none=>rw[hu] at h;cases h|some ds=>exact⟨ds,rfl⟩
theorem f7 {K:Kd α} (hT:KT P T K) {w:World} {p:Addr} {c:Array Value} (hp:p.spot=none) (hb:w.heap[p.block]? =some (.cells c e fr)) (hle:p.off+K.n≤c.size):(Instr.loadAt T (.pointer (some p))).run P w= .ok (pB K.agg ((c.toList.drop p.off).take K.n)) w:=by obtain⟨b,off,spot⟩:=p;simp only at hp hb hle;subst hp;(have hlen:((c.toList.drop off).take K.n).length=K.n:=by simp;omega);cases ha:K.agg with|true=>obtain⟨ds,hu⟩:=vz hT.agg;(have hrow:ds.isRow=true:=by have:=hT.agg;unfold rE at this;rw[hu,ha] at this;cases ds<;>simp_all [TypeDesc.isRow]);refine run_loadAt_mid w b off T _ ds (λj v hv=>?_) hu hrow (by rw[hlen];exact hT.size);(have hcell:w.cell? ⟨b,off+j,none⟩=c[off+j]? :=by simp[World.cell?,hb]);rw[hcell];(have hj:j<K.n:=by have h9:=(we.1 hv).1;simp only[wx] at h9;omega);rw[wu hj,wT] at hv;simpa using hv|false=>have h1:=K.sole ha;have hisagg:=lY (P:=P) (by rw[hT.agg,ha]:rE P T=some false) w;(have hlt:off<c.size:=by omega);(have hcell:w.cell? ⟨b,off,none⟩=some c[off]:=by simp[World.cell?,hb,hlt]);(have hl:(load ⟨b,off,none⟩).run P w= .ok c[off] w:=by simp[load,Sem.run,hcell]);(have htk:((c.toList.drop off).take K.n)=[c[off]]:=by rw[h1];rw[List.drop_eq_getElem_cons (by simpa using hlt)];simp);simp only[Instr.loadAt,Instr.sureAddr,wv,wF,wm,loadVar,hisagg,hl,htk];simp[pB,hl]
theorem Ai (hT:KT P T K) (hX:ev E X=some (.ptr K x)):ea P n E L ⟨some d,.load T X,ty,pos,aft,none⟩ (.val K x):=λF a hE=>by have:=hE.eval hX;simp only[SV.ok] at this;obtain⟨p,he,hp⟩:=this;obtain⟨c,e,fr,hs,hb,hle,hr⟩:=hp.out;refine⟨_,by simp only[SV.ok];exact⟨_,hr,rfl⟩,λw ⟨G,hg,hS⟩=>?_⟩;have:=f7 hT hs (hS.on.blk _ _ (hg.blk _ _ hb)) hle;unfold Oper.quietAt;simp[execOp,he,this,Oper.quietUpon]
theorem Bf (h:ea P n E L o (.val (bB k) x)):ea P n E L o (.raw (.int k x)):=λF a hE=>by obtain⟨v,hv,hw⟩:=h F a hE;exact⟨v,by simp only[SV.ok] at*;exact lx.1 hv,hw⟩
theorem zS (hT:KT P T (bB k)) (hX:ev E X=some (.ptr (bB k) x)):ea P n E L ⟨some d,.load T X,ty,pos,aft,none⟩ (.raw (.int k x)):=Bf (Ai hT hX)
theorem cc (h:(P.info? T).map (·.size)=some m) (w:World):(sizeOf T).run P w= .ok m w:=by cases hq:P.info? T with|none=>rw[hq] at h;cases h|some i=>(rw[hq] at h;have:i.size=m:=by simpa using h);simp[sizeOf,typeInfo,hq,this]
def c8 (P:Program) (T:TypeId) (i:Nat):Option (Nat×Nat):=match P.underlying T with|some (.struct fs)=>(fs[i]?).bind λf=>((P.info? f.type).map (·.size)).map λs=>(f.offset,s)|_=>none
theorem kV (h:c8 P T i=some (o,m+1)) (p:Addr) (hp:p.spot=none) (w:World):(Instr.fieldAt T (.pointer (some p)) i).run P w= .ok (.pointer (some ⟨p.block,p.off+o,none⟩)) w:=by unfold c8 at h;split at h;rename_i fs hu;obtain⟨f,hf,h⟩:=wZ.1 h;obtain⟨s',hs,h⟩:=wN.1 h;simp only[Prod.mk.injEq] at h;obtain⟨rfl,rfl⟩:=h;have hsz:=cc hs;(have hadd:p.add f.offset=⟨p.block,p.off+f.offset,none⟩:=by obtain⟨b,off,sp⟩:=p;simp only at hp;subst hp;exact wP b off _);simp[Instr.fieldAt,wo hu,hf,Instr.sureAddr,fieldPlace,hsz,hadd];cases h
theorem AU {β:Type} {fs:List (en β)} {T:TypeId} {X:Operand} {i m:Nat} {x:β} {f:en β} (hT:c8 P T i=some (eb fs i,m+1)) (hf:fs[i]? =some f) (hX:ev E X=some (.ptr (h_ fs) x)):ea P n E L ⟨some d,.fieldAddr T X i,ty,pos,aft,none⟩ (.ptr f.K (f.get x)):=zX λF a hE=>by have:=hE.eval hX;simp only[SV.ok] at this;obtain⟨p,he,hp⟩:=this;obtain⟨_,_,_,hs,_⟩:=hp.out;exact⟨.pointer (some ⟨p.block,p.off+eb fs i,none⟩),by simp only[SV.ok];exact⟨_,rfl,hp.fld hf⟩,λw=>by simp[execOp,he,kV hT p hs w]⟩
def idx {α:Type} (xs:List α) (i:Int):Option α:=if 0≤i then xs[i.toNat]? else none
theorem eO {xs:List α} {i:Int} (h:idx xs i=some x):0≤i∧i<xs.length∧xs[i.toNat]? =some x:=by unfold idx at h;split at h;rename_i h0;have:=(we.1 h).1;exact⟨h0,by omega,h⟩;cases h
theorem jh {m':Nat} (hT:P.underlying T=some (.slice e)) (hs:(P.info? e).map (·.size)=some m') {p:Addr} {m c:Nat} {i:Int} (h0:0≤i) (h1:i<m) (hp:p.spot=none) (w:World):(Instr.indexAt T (.slice (some p) m c) (.int q i)).run P w= .ok (.pointer (some ⟨p.block,p.off+i.toNat*m',none⟩)) w:=by(have hadd:p.add (i.toNat*m')=⟨p.block,p.off+i.toNat*m',none⟩:=by obtain⟨b,off,sp⟩:=p;simp only at hp;subst hp;exact wP b off _);simp[Instr.indexAt,asIntOf,wo hT,cc hs,h0,h1,hadd]
theorem An {α:Type} {K:Kd α} {T e:TypeId} {X I:Operand} {xs:List α} {x:α} {q:IntKind} {i:Int} (hx:idx xs i=some x) (hT:P.underlying T=some (.slice e)) (hs:(P.info? e).map (·.size)=some K.n) (hX:ev E X=some s) (hr:eH s (cI K) xs) (hI:ev E I=some (.raw (.int q i))):ea P n E L ⟨some d,.indexAddr T X I,ty,pos,aft,none⟩ (.ptr K x):=zX λF a hE=>by obtain⟨a0,cap,he,hat⟩:=cI.at_ (hr F _ (hE.eval hX));obtain⟨h0,h1,hx⟩:=eO hx;obtain⟨p,rfl,hp,hrd⟩:=hat _ _ hx;exact⟨.pointer (some ⟨p.block,p.off+i.toNat*K.n,none⟩),by simp only[SV.ok];exact⟨_,rfl,hrd⟩,λw=>by simp[execOp,he,hE.raw hI,jh hT hs h0 h1 hp w]⟩
theorem ji (hT:P.underlying T=some (.array m e)) (hs:(P.info? e).map (·.size)=some m') {p:Addr} {i:Int} (h0:0≤i) (h1:i<m) (hp:p.spot=none) (w:World):(Instr.indexAt T (.pointer (some p)) (.int q i)).run P w= .ok (.pointer (some ⟨p.block,p.off+i.toNat*m',none⟩)) w:=by(have hadd:p.add (i.toNat*m')=⟨p.block,p.off+i.toNat*m',none⟩:=by obtain⟨b,off,sp⟩:=p;simp only at hp;subst hp;exact wP b off _);simp[Instr.indexAt,asIntOf,wo hT,cc hs,h0,h1,hadd,Instr.sureAddr]
theorem zR {K:Kd α} {xs:List α} {i:Int} (hx:idx xs i=some x) (hT:P.underlying T=some (.array m e)) (hs:(P.info? e).map (·.size)=some K.n) (hX:ev E X=some (.ptr (bG m K) xs)) (hI:ev E I=some (.raw (.int q i))):ea P n E L ⟨some d,.indexAddr T X I,ty,pos,aft,none⟩ (.ptr K x):=zX λF a hE=>by have:=hE.eval hX;simp only[SV.ok] at this;obtain⟨p,he,hu⟩:=this;obtain⟨h0,h1,hx⟩:=eO hx;obtain⟨_,_,_,hp,_,_,hr⟩:=hu.out;have hm:xs.length=m:=hr.1;exact⟨.pointer (some ⟨p.block,p.off+i.toNat*K.n,none⟩),by simp only[SV.ok];exact⟨_,rfl,hu.arr hx⟩,λw=>by simp[execOp,he,hE.raw hI,ji hT hs h0 (by omega) hp w]⟩
def Dt (E:List (Nat×SV)):List Operand→Option (List SV)|[]=>some []|x::xs=>match ev E x,Dt E xs with|some s,some l=>some (s::l)|_,_=>none
theorem AK {a:Act} (hE:Env F a n E):∀{xs:List Operand} {l:List SV},Dt E xs=some l→SV.oks F (xs.map a.eval) l|[],l,h=>by cases h;simp only[x7,SV.oks]|x::xs,l,h=>by simp only[Dt] at h;split at h;rename_i s l' h1 h2;cases h;simp only[wS,SV.oks];exact⟨hE.eval h1,AK hE h2⟩;cases h
theorem bx.call {f:FuncId} {X:Operand} {xs:List Operand} {g:Array TypeId} {l:List SV} {L':List bJ} (hc:∀b w,(callFunc f b).run P w= .ok (.enter f b) w) (hX:ev E X=some (.raw (.func (.func f) #[] #[]))) (hx:Dt E xs=some l) (ho:Ok P f l L s L') (hd:Nat.blt d n=true) (k:bx F0 n ((d,s)::E) L' (wpList P h Q c)):bx F0 n E L (wpList P h Q (⟨some d,.call ⟨.value X,xs.toArray,g⟩,ty,pos,aft,none⟩::c)):=zQ rfl λF a w h0 hE hS=>by have hv:=AK hE hx;have h1:=ho F w _ hv hS;unfold Oper.wp;simp only[execOp,resolve,hE.raw hX,Deferred.ofValue,invoke,xh,wv,wF,wm,yr,Array.append_empty];rw[hc];exact h1.mono λe w' ⟨G,v,he,hg,hS',i⟩=>by subst he;exact k G _ _ (Au h0 hg) ((hE.mono hg).put hd i) hS'
end
end Go.Sim
namespace Go.Sim
open Go
structure Pl {β α:Type} (K0:Kd β) (off:Nat) (K:Kd α) (g:β→Option α) (st:β→α→β):Prop where
 get:∀{F cs x y},K0.rd F cs x→g x=some y→off+K.n≤cs.length∧K.rd F ((cs.drop off).take K.n) y
 set:∀{F cs x c y z},K0.rd F cs x→g x=some z→K.rd F c y→K0.rd F (cs.take off++c++cs.drop (off+K.n)) (st x y)
theorem Pl.id {K0:Kd β}:Pl K0 0 K0 some (λ_ y=>y) where
 get:=λh e=>by cases e;have:=K0.len h;simp only[wL,xk];rw[←this,w5];exact⟨wy _,h⟩
 set:=λh _ hy=>by have:=K0.len h;simpa[←this] using hy
theorem lk.set:∀{fs:List (en β)} {cs c:List Value} {x x':β} {i:Nat} {f:en β},lk F fs cs x→fs[i]? =some f→f.K.rd F c (f.get x')→(∀j g,fs[j]? =some g→j≠i→g.get x'=g.get x)→lk F fs (cs.take (eb fs i)++c++cs.drop (eb fs i+f.K.n)) x'|[],_,_,_,_,_,_,_,h,_,_=>by cases h|g::fs,cs,c,x,x',0,f,⟨c0,d,e,h,r⟩,hf,hy,ho=>by cases hf;subst e;have hl:=g.K.len h;simp only[eb,yh,wQ,wL];rw[←hl,yM];refine⟨c,d,rfl,hy,?_⟩;(have:∀(fs:List (en β)) (d:List Value),(∀g∈fs,g.get x'=g.get x)→lk F fs d x→lk F fs d x':=by intro fs;induction fs with|nil=>intro d _ h;exact h|cons g fs ih=>intro d hg ⟨c1,d1,e,h,r⟩;exact⟨c1,d1,e,by rw[hg g (by simp)];exact h,ih d1 (λg a=>hg g (by simp[a])) r⟩);refine this fs d (λq hq=>?_) r;obtain⟨j,hj⟩:=List.getElem?_of_mem hq;exact ho (j+1) q (by simpa using hj) (by omega)|g::fs,cs,c,x,x',i+1,f,⟨c0,d,e,h,r⟩,hf,hy,ho=>by subst e;have hl:=g.K.len h;have ih:=lk.set r (i:=i) (f:=f) (x':=x') (by simpa using hf) hy (λj q hq hj=>ho (j+1) q (by simpa using hq) (by omega));simp only[eb];rw[←hl,yy,zp,yw];refine⟨c0,_,by simp,?_,ih⟩;rw[ho 0 g rfl (by omega)];exact h
def pD {β:Type} (x x':β):List (en β)→Nat→Prop|[],_=>True|g::fs,0=>(∀q∈fs,q.get x'=q.get x)|g::fs,i+1=>g.get x'=g.get x∧pD x x' fs i
theorem pD.spec:∀{fs:List (en β)} {i:Nat},pD x x' fs i→∀j g,fs[j]? =some g→j≠i→g.get x'=g.get x|[],_,_,j,g,h,_=>by cases h|q::fs,0,hb,j,g,h,hj=>(by cases j with|zero=>exact absurd rfl hj|succ j=>exact hb g (ww (by simpa using h)))|q::fs,i+1,hb,j,g,h,hj=>by cases j with|zero=>cases h;exact hb.1|succ j=>exact pD.spec hb.2 j g (by simpa using h) (by omega)
theorem nD {cs:List Value} (h:u+q≤m):cs.take o++(((cs.drop o).take m).take u++c++((cs.drop o).take m).drop (u+q))++cs.drop (o+m)=cs.take (o+u)++c++cs.drop (o+u+q):=by rw[yg,wX (by omega),ye];have h1:cs.take (o+u)=cs.take o++(cs.drop o).take u:=yo;(have h2:cs.drop (o+u+q)=((cs.drop o).drop (u+q)).take (m - (u+q))++cs.drop (o+m):=by have e:=xn (m - (u+q)) ((cs.drop o).drop (u+q));rw[wU,wU,show o+(u+q)+(m - (u+q))=o+m by omega,←zp] at e;rw[wU,←zp];exact e.symm);rw[h1,h2];simp only[wM]
theorem Pl.fld {β γ:Type} {K0:Kd β} {o:Nat} {fs:List (en γ)} {g:β→Option γ} {st:β→γ→β} (p:Pl K0 o (h_ fs) g st) {i:Nat} {f:en γ} (hf:fs[i]? =some f) (s1:γ→f.α→γ)
  (h1:∀x y,f.get (s1 x y)=y) (h2:∀x y,pD x (s1 x y) fs i):
  Pl K0 (o+eb fs i) f.K (λx=>(g x).map f.get) (λx y=>match g x with|some z=>st x (s1 z y)|none=>x) where
 get:=λ{F cs x y} h e=>by
  obtain⟨z,hz,rfl⟩:=wN.1 e
  obtain⟨a,b⟩:=p.get h hz
  obtain⟨a',b'⟩:=lk.get b hf
  have hn:((List.drop o cs).take (h_ fs).n).length=(h_ fs).n:=by simp only[wx,wO];omega
  rw[hn] at a'
  refine⟨by omega,?_⟩
  rwa [df a'] at b'
 set:=λ{F cs x c y z'} h e hy=>by
  obtain⟨z,hz,rfl⟩:=wN.1 e
  obtain⟨a,b⟩:=p.get h hz
  obtain⟨a',b'⟩:=lk.get b hf
  have hn:((List.drop o cs).take (h_ fs).n).length=(h_ fs).n:=by simp only[wx,wO];omega
  rw[hn] at a'
  have hs:=lk.set b hf (x':=s1 z y) (by rw[h1];exact hy) (pD.spec (h2 z y))
  have:=p.set h hz (c:=_) (y:=s1 z y) hs
  simp only[hz]
  refine cast (congrArg (λl=>K0.rd F l _) ?_) this
  exact nD a'
theorem Pl.ix {K0:Kd β} {K:Kd α} (p:Pl K0 o (bG m K) g st) (i:Nat):
  Pl K0 (o+i*K.n) K (λx=>(g x).bind λxs=>xs[i]?) (λx y=>match g x with|some xs=>st x (xs.set i y)|none=>x) where
 get:=λh e=>by
  obtain⟨xs,hz,e⟩:=wZ.1 e
  obtain⟨a,hl,b⟩:=p.get h hz
  have hi:i<xs.length:=(we.1 e).1
  have h1:(i+1)*K.n≤m*K.n:=wh _ (by omega)
  rw[w7] at h1
  have a':o+m*K.n≤_:=a
  refine⟨by omega,?_⟩
  have:=b.get e
  rwa [show(bG m K).n=m*K.n from rfl,df (by omega)] at this
 set:=λ{F cs x c y z'} h e hy=>by
  obtain⟨xs,hz,e⟩:=wZ.1 e
  obtain⟨a,hl,b⟩:=p.get h hz
  have hi:i<xs.length:=(we.1 e).1
  have hs:=b.set hi hy
  have:=p.set h hz (c:=_) (y:=xs.set i y) ⟨by simpa using hl,hs⟩
  simp only[hz]
  refine cast (congrArg (λl=>K0.rd F l _) ?_) this
  have h1:(i+1)*K.n≤m*K.n:=wh _ (by omega)
  rw[w7] at h1
  exact nD (u:=i*K.n) (q:=K.n) (m:=m*K.n) h1
section
variable {P:Program} {ops:Array Oper} {Q:Exit→Act→World→Prop} {rest:List Oper} {F0:Fz} {n:Nat} {E:List (Nat×SV)} {L:List bJ}
variable {d:Nat} {op:Op} {ty:TypeId} {pos:String} {aft:Array Edge} {s:SV}
theorem gp (o:Obj) (w:World):(newObj o).run P w= .ok w.heap.size (w.alloc o):=rfl
theorem gT (w:World) (o:Obj):yG w (w.alloc o) cD.emp:=⟨rfl,rfl,rfl,λb hb _=>yN w o b hb⟩
theorem iq (w:World) (o:Obj):(∀b,cD.one w.heap.size o b≠none→w.heap.size≤b)∧∀b q,cD.one w.heap.size o b=some q→(w.alloc o).heap[b]? =some q:=⟨λb hb=>by by_cases h:b=w.heap.size;omega;exact absurd (AA o h) hb,λb q h=>by obtain⟨rfl,rfl⟩:=As h;exact heap_alloc_new w _⟩
theorem Cc {K:Kd α} (hX:ev E X=some s) (hr:eH s K x) (hd:Nat.blt d n=true) (k:bx F0 n ((d,.ptr K x)::E) L (wpList P f Q c)):bx F0 n E L (wpList P f Q (⟨some d,.box T X,ty,pos,aft,none⟩::c)):=zQ rfl λF a w h0 hE hS=>by have hv:=hr F _ (hE.eval hX);obtain⟨g,h⟩:=iq w (.cells (a.eval X).cells T);obtain⟨b,hS'⟩:=BI hS (cD.one w.heap.size (.cells (a.eval X).cells T)) (gT w _) g h;(have hp:pG (F.add (cD.one w.heap.size (.cells (a.eval X).cells T))) ⟨w.heap.size,0,none⟩ K x:=by refine⟨(a.eval X).cells,T,(0,0),rfl,?_,by have:=hv.sizeEq;simp only[wL];omega,?_⟩;have:=hS.on;simp only[Fz.add];rw[gI.fresh hS _ (wy _)];exact zN _ _;have h1:=hv.rd;have h2:=K.len h1;simp only[xk];rw[←h2,w5];exact K.mono b h1);(have e:(execOp a.eval (⟨some d,.box T X,ty,pos,aft,none⟩:Oper)).run P w= .ok (.value (.pointer (some ⟨w.heap.size,0,none⟩))) (w.alloc (.cells (a.eval X).cells T)):=by simp[execOp,Instr.box,newVar,newRow,gp]);unfold Oper.wp;rw[e];exact k _ _ _ (Au h0 b) ((hE.mono b).put hd (by simp only[SV.ok];exact⟨_,rfl,hp⟩)) hS'
theorem zY (hX:ev E X=some s) (hr:eH s K x) (hd:Nat.blt d n=true) (k:∀b,bx F0 n ((d,.raw (.pointer (some ⟨b,0,none⟩)))::E) (.box K b T x::L) (wpList P f Q c)):bx F0 n E L (wpList P f Q (⟨some d,.box T X,ty,pos,aft,none⟩::c)):=zQ rfl λF a w h0 hE hS=>by have hv:=hr F _ (hE.eval hX);obtain⟨g,h⟩:=iq w (.cells (a.eval X).cells T);have i:St F (w.alloc (.cells (a.eval X).cells T)) (.box K w.heap.size T x::L):=Bd hS _ ⟨_,hv.rd,by simp⟩ (gT w _) g h;(have e:(execOp a.eval (⟨some d,.box T X,ty,pos,aft,none⟩:Oper)).run P w= .ok (.value (.pointer (some ⟨w.heap.size,0,none⟩))) (w.alloc (.cells (a.eval X).cells T)):=by simp[execOp,Instr.box,newVar,newRow,gp]);unfold Oper.wp;rw[e];exact k _ _ _ _ h0 (hE.put hd (by simp only[SV.ok])) i
def ZT {α:Type} (P:Program) (T:TypeId) (K:Kd α) (z:α):Prop:=∃v,(P.info? T).bind (·.zero)=some v∧∀F,K.rd F v.cells.toList z
theorem jj (h:(P.info? T).bind (·.zero)=some v) (w:World):(zeroValue T).run P w= .ok v w:=by obtain⟨i,hi,hz⟩:=wZ.1 h;simp[zeroValue,typeInfo,hi,hz]
theorem Cr (hz:ZT P T K z) (hd:Nat.blt d n=true) (k:∀b,bx F0 n ((d,.raw (.pointer (some ⟨b,0,none⟩)))::E) (.box K b T z::L) (wpList P f Q c)):bx F0 n E L (wpList P f Q (⟨some d,.alloc T,ty,pos,aft,none⟩::c)):=zQ rfl λF a w h0 hE hS=>by obtain⟨v,hv,hrd⟩:=hz;obtain⟨g,h⟩:=iq w (.cells v.cells T);have i:St F (w.alloc (.cells v.cells T)) (.box K w.heap.size T z::L):=Bd hS _ ⟨_,hrd F,by simp⟩ (gT w _) g h;(have e:(execOp a.eval (⟨some d,.alloc T,ty,pos,aft,none⟩:Oper)).run P w= .ok (.value (.pointer (some ⟨w.heap.size,0,none⟩))) (w.alloc (.cells v.cells T)):=by simp[execOp,Instr.alloc,jj hv,newVar,newRow,gp]);unfold Oper.wp;rw[e];exact k _ _ _ _ h0 (hE.put hd (by simp only[SV.ok])) i
theorem Cd {K:Kd α} (ht:look E t=some (.raw (.pointer (some ⟨b,0,none⟩)))) (k:bx F0 n ((t,.ptr K x)::E) L X):bx F0 n E (.box K b T x::L) X:=λF a w h0 hE hS=>by obtain⟨h,⟨cs,c,rfl⟩,hap,d,hS'⟩:=hS.freeze;have f:F.blk b=none:=hap b (by rw[zN];simp);(have hp:pG (F.add (cD.one b (.cells cs.toArray T (0,0)))) ⟨b,0,none⟩ K x:=by have h2:=K.len c;refine⟨cs.toArray,T,(0,0),rfl,?_,by simp;omega,?_⟩;simp only[Fz.add,f];exact zN _ _;simp only[xk];rw[←h2,w5];exact c);refine k _ a w (Au h0 d) ⟨hE.defers,hE.size,λu r e=>?_⟩ hS';rw[bS] at e;split at e;rename_i hk;subst hk;cases e;obtain⟨v,h1,h2⟩:=hE.at_ t _ ht;simp only[SV.ok] at h2;subst h2;exact⟨_,h1,by simp only[SV.ok];exact⟨_,rfl,hp⟩⟩;exact(hE.mono d).at_ u r e
theorem ka (hT:(P.info? T).map (·.size)=some m) {w:World} {cs:List Value} (hb:w.heap[b]? =some (.cells cs.toArray e (0,0))) {v:Value} (hv:v.cells.size=m) (h1:∀u∈v.cells.toList,u.oneCell'=true) (hle:off+m≤cs.length):∃w',(Instr.storeAt T (.pointer (some ⟨b,off,none⟩)) v).run P w= .ok () w'∧w'.heap[b]? =some (.cells (cs.take off++v.cells.toList++cs.drop (off+m)).toArray e (0,0))∧yG w w' (cD.one b (.cells cs.toArray e (0,0))):=by(have hl:v.cells.toList.length=m:=by simpa using hv);have hst:=run_storeCells_at P b off e v.cells.toList 0 cs.toArray w hb (by simp;omega) h1;simp only[ym,hl] at hst;refine⟨w.setRow b (cs.take off++v.cells.toList++cs.drop (off+m)).toArray,?_,setRow_heap w b cs.toArray _ e _ hb,⟨rfl,rfl,rfl,λk hk hn=>setRow_other w b k _ (λe=>by rw[e,zN] at hn;cases hn)⟩⟩;simp only[Instr.storeAt,Instr.sureAddr,wv,wF,wm,storeVar,cc hT,hv];simpa using hst
end
end Go.Sim
namespace Go.Sim
open Go
section
variable {P:Program} {ops:Array Oper} {Q:Exit→Act→World→Prop} {rest:List Oper} {F0:Fz} {n:Nat} {E:List (Nat×SV)} {L:List bJ}
variable {d:Nat} {op:Op} {ty:TypeId} {pos:String} {aft:Array Edge} {s:SV}
theorem BV (h:look E t=some (.val (bB k) x)) (kk:bx F0 n ((t,.raw (.int k x))::E) L X):bx F0 n E L X:=λF a w h0 hE hS=>kk F a w h0 ⟨hE.defers,hE.size,λu r e=>by rw[bS] at e;split at e;rename_i hk;subst hk;cases e;obtain⟨v,h1,h2⟩:=hE.at_ t _ h;exact⟨v,h1,by simp only[SV.ok] at*;exact lx.1 h2⟩;exact hE.at_ u r e⟩ hS
class DV {α:Type} (K:Kd α):Prop where
 det:∀{F G cs ds x},K.rd F cs x→K.rd G ds x→cs=ds
instance {k:IntKind}:DV (bB k):=⟨λh h'=>by cases h;cases h';rfl⟩
instance:DV jg:=⟨λh h'=>by cases h;cases h';rfl⟩
theorem bd.det {α:Type} {K:Kd α} [DV K]:∀{xs:List α} {F G:Fz} {cs ds:List Value},bd K F cs xs→bd K G ds xs→cs=ds|[],_,_,_,_,h,h'=>by cases h;cases h';rfl|x::xs,_,_,_,_,⟨c,d,e,h,r⟩,⟨c',d',e',h',r'⟩=>by subst e;subst e';rw[DV.det h h',bd.det r r']
instance {α:Type} {m:Nat} {K:Kd α} [DV K]:DV (bG m K):=⟨λh h'=>bd.det h.2 h'.2⟩
theorem AW (hT:c8 P T i=some (o,m+1)) (hX:ev E X=some (.raw (.pointer (some ⟨b,off,none⟩)))):ea P n E L ⟨some d,.fieldAddr T X i,ty,pos,aft,none⟩ (.raw (.pointer (some ⟨b,off+o,none⟩))):=Ac λF a hE w=>by simp[execOp,hE.raw hX,kV hT ⟨b,off,none⟩ rfl w]
inductive tD {β:Type} (E:List (Nat×SV)) (fs:List (en β)):List (Nat×Operand)→β→β→Prop where
 |nil (x:β):tD E fs [] x x
 |cons {i:Nat} {X:Operand} {ps:List (Nat×Operand)} {x x' y:β} {f:en β} {s:SV} (hf:fs[i]? =some f) (hX:ev E X=some s) (hr:eH s f.K (f.get x')) (hb:pD x x' fs i) (r:tD E fs ps x' y):tD E fs ((i,X)::ps) x y
end
end Go.Sim
namespace Go.Sim
open Go
section
variable {P:Program} {ops:Array Oper} {Q:Exit→Act→World→Prop} {rest:List Oper} {F0:Fz} {n:Nat} {E:List (Nat×SV)} {L:List bJ}
variable {d:Nat} {op:Op} {ty:TypeId} {pos:String} {aft:Array Edge} {s:SV}
theorem pM:∀(vs:List Value) (j o:Nat) (cells:Array Value),o+j+vs.length≤cells.size→(vs.zipIdx j).foldl (λcs p=>cs.setIfInBounds (o+p.2) p.1) cells=(cells.toList.take (o+j)++vs++cells.toList.drop (o+j+vs.length)).toArray|[],j,o,cells,h=>by simp|v::vs,j,o,cells,h=>by simp only[List.zipIdx_cons,zh];simp only[xu] at h;rw[pM vs (j+1) o _ (by simp;omega)];congr 1;(have a:o+j<cells.size:=by omega);simp only[Array.toList_setIfInBounds,xu];(have e1:(cells.toList.set (o+j) v).take (o+(j+1))=cells.toList.take (o+j)++[v]:=by rw[xS,xN (by simpa using a)];rw[show o+(j+1)=(cells.toList.take (o+j)).length+1 by simp;omega,yy];simp);(have e2:(cells.toList.set (o+j) v).drop (o+(j+1)+vs.length)=cells.toList.drop (o+j+(vs.length+1)):=by rw[List.drop_set_of_lt (by omega)];congr 1;omega);rw[e1,e2];simp
theorem pN {place:Nat→Option (Nat×Nat)} {i o m:Nat} {cells:Array Value} {v:Value} {rest:List (Nat×Value)} (hp:place i=some (o,m)) (hv:v.cells.size=m) (hle:o+m≤cells.size):Instr.fill place cells ((i,v)::rest)=Instr.fill place (cells.toList.take o++v.cells.toList++cells.toList.drop (o+m)).toArray rest:=by unfold Instr.fill;simp only[hp];rw[xv (by simp[hv];omega)];have h:=pM v.cells.toList 0 o cells (by simp;omega);simp only[ym,xg,hv] at h;rw[←h];(have:(v.cells.zipIdx.foldl (λcs (x:Value×Nat)=>match x with|(c,j)=>cs.setIfInBounds (o+j) c) cells)=(v.cells.toList.zipIdx 0).foldl (λcs p=>cs.setIfInBounds (o+p.2) p.1) cells:=by rw[←Array.foldl_toList,Array.toList_zipIdx]);rw[this];cases rest<;>rfl
theorem tO {β:Type} {fs:List (en β)} {place:Nat→Option (Nat×Nat)} (hp:∀i f,fs[i]? =some f→place i=some (eb fs i,f.K.n)) {F:Fz} {a:Act} (hE:Env F a n E):∀{ps:List (Nat×Operand)} {x y:β} {cells:Array Value},tD E fs ps x y→lk F fs cells.toList x→∃r,Instr.fill place cells (ps.map λp=>(p.1,a.eval p.2))=some r∧lk F fs r.toList y:=by intro ps x y cells hb;induction hb generalizing cells with|nil x=>intro h;exact⟨cells,by simp[Instr.fill],h⟩|@cons i X ps x x' y f s hf hX hr hb r ih=>intro h;have hv:=hr F _ (hE.eval hX);have hle:=(lk.get h hf).1;rw[wS,pN (hp i f hf) hv.sizeEq (by simpa using hle)];exact ih (by simpa using lk.set h hf hv.rd (pD.spec hb))
structure BT {β:Type} (P:Program) (T:TypeId) (fs:List (en β)) (z:β):Prop where
 out:∃it zv ff pl,P.info? T=some it∧it.zero=some zv∧P.underlying T=some (.struct ff)∧ff.toList.mapM (λf=>(P.info? f.type).map λi=>(f.offset,i.size))=some pl∧
  (∀i f,fs[i]? =some f→pl[i]? =some (eb fs i,f.K.n))∧∀F,lk F fs zv.cells.toList z
theorem Al {β:Type} {fs:List (en β)} {T:TypeId} {ps:List (Nat×Operand)} {z y:β} (hT:BT P T fs z) (hb:tD E fs ps z y):ea P n E L ⟨some d,.build T ps.toArray,ty,pos,aft,none⟩ (.val (h_ fs) y):=zX λF a hE=>by obtain⟨it,zv,ff,pl,h1,h2,h3,h4,h5,h6⟩:=hT.out;obtain⟨r,hr,hrd⟩:=tO (place:=λi=>pl.toArray[i]?) (λi f hf=>by simpa using h5 i f hf) hE hb (h6 F);refine⟨.agg r,by simp only[SV.ok];exact⟨r.toList,hrd,by simp[pB,h_]⟩,λw=>?_⟩;(have b:P.built T (ps.map λp=>(p.1,a.eval p.2))=some r:=by unfold Program.built;simp only[h1,h3,h2,h4];exact hr);have:=run_build (P:=P) w T (ps.map λp=>(p.1,a.eval p.2)).toArray r (by simpa using b);simp only[execOp,xh,this,wv,wm,wF]
inductive eA {α:Type} (E:List (Nat×SV)) (K:Kd α):List (Nat×Operand)→List α→List α→Prop where
 |nil (xs:List α):eA E K [] xs xs
 |cons {i:Nat} {X:Operand} {ps:List (Nat×Operand)} {xs ys:List α} {y:α} {s:SV} (hi:Nat.blt i xs.length=true) (hX:ev E X=some s) (hr:eH s K y) (r:eA E K ps (xs.set i y) ys):eA E K ((i,X)::ps) xs ys
theorem kz {α:Type} {K:Kd α} {F:Fz} {a:Act} (hE:Env F a n E):∀{ps:List (Nat×Operand)} {xs ys:List α} {cells:Array Value},eA E K ps xs ys→bd K F cells.toList xs→∃r,Instr.fill (λi=>some (i*K.n,K.n)) cells (ps.map λp=>(p.1,a.eval p.2))=some r∧bd K F r.toList ys:=by intro ps xs ys cells hb;induction hb generalizing cells with|nil x=>intro h;exact⟨cells,by simp[Instr.fill],h⟩|@cons i X ps xs ys y s hi hX hr r ih=>intro h;(have hi':i<xs.length:=by simpa[xr] using hi);have hv:=hr F _ (hE.eval hX);have hl:=h.len;have h1:(i+1)*K.n≤xs.length*K.n:=wh _ (by omega);rw[w7] at h1;(have hle:i*K.n+K.n≤cells.size:=by simp only[xg] at hl;omega);rw[wS,pN rfl hv.sizeEq hle];exact ih (by simpa using h.set hi' hv.rd)
theorem eA.len {xs ys:List α} (h:eA E K ps xs ys):ys.length=xs.length:=by induction h with|nil=>rfl|cons hi hX hr r ih=>simpa using ih
structure Dq {α:Type} (P:Program) (T:TypeId) (m:Nat) (K:Kd α) (z:List α):Prop where
 out:∃it zv e ie,P.info? T=some it∧it.zero=some zv∧P.underlying T=some (.array m e)∧P.info? e=some ie∧ie.size=K.n∧z.length=m∧∀F,bd K F zv.cells.toList z
theorem Ax {ps:List (Nat×Operand)} (hT:Dq P T m K z) (hb:eA E K ps z ys):ea P n E L ⟨some d,.build T ps.toArray,ty,pos,aft,none⟩ (.val (bG m K) ys):=zX λF a hE=>by obtain⟨it,zv,e,ie,h1,h2,h3,h4,h5,h6,h7⟩:=hT.out;obtain⟨r,hr,hrd⟩:=kz hE hb (h7 F);refine⟨.agg r,by simp only[SV.ok];exact⟨r.toList,⟨by rw[hb.len,h6],hrd⟩,by simp[pB,bG]⟩,λw=>?_⟩;(have b:P.built T (ps.map λp=>(p.1,a.eval p.2))=some r:=by unfold Program.built;simp only[h1,h3,h2,h4,h5];exact hr);have:=run_build (P:=P) w T (ps.map λp=>(p.1,a.eval p.2)).toArray r (by simpa using b);simp only[execOp,xh,this,wv,wm,wF]
theorem iH {K:Kd α} (hz:K.rd F cs z):∀m,bd K F ((List.replicate m cs).flatten) (List.replicate m z)|0=>rfl|m+1=>by rw[xa,yu,xa];exact⟨cs,_,rfl,hz,iH hz m⟩
theorem kW (cs:List Value) (hc:0<cs.length):∀(m i:Nat),i<m*cs.length→((List.replicate m cs).flatten)[i]? =cs[i%cs.length]?|0,i,h=>by omega|m+1,i,h=>by rw[xa,yu,xR];rw[w7] at h;split;rename_i h1;rw[Nat.mod_eq_of_lt h1];rename_i h1;rw[kW cs hc m (i - cs.length) (by omega)];rw[←Nat.mod_eq_sub_mod (by omega)]
theorem pO (z:Array Value) (m:Nat) (hz:0<z.size):((Array.range (m*z.size)).map (z[· %z.size]!)).toList=(List.replicate m z.toList).flatten:=by apply yv;intro i;by_cases hi:i<m*z.size;rw[kW z.toList (by simpa using hz) m i (by simpa using hi)];have hm:i%z.size<z.size:=Nat.mod_lt _ hz;simp[hi,hm];rw[yi (by simp;omega),yi];(have:((List.replicate m z.toList).flatten).length=m*z.size:=by simp);omega
structure ET {α:Type} (P:Program) (e:TypeId) (K:Kd α) (z:α):Prop where
 out:∃ie zv,P.info? e=some ie∧ie.zero=some zv∧ie.size=K.n∧0<K.n∧∀F,K.rd F zv.cells.toList z
theorem tP {K:Kd α} {ps:List (Nat×Operand)} (hT:P.underlying T=some (.slice e)) (he:ET P e K z) (hb:eA E K ps (List.replicate m z) ys) (hm:Nat.ble (m*K.n) 16777216=true) {a:Act} (hE:Env F a n E) (w:World):∃cells:Array Value,(execOp a.eval (⟨some d,.buildSlice T m ps.toArray,ty,pos,aft,none⟩:Oper)).run P w= .ok (.value (.slice (some ⟨w.heap.size,0,none⟩) m m)) (w.alloc (.cells cells e))∧bd K F cells.toList ys:=by obtain⟨ie,zv,h1,h2,h3,h4,h5⟩:=he.out;(have f:zv.cells.size=K.n:=by have:=K.len (h5 F);simpa using this);(have g:(sizeOf e).run P w= .ok K.n w:=by simp[sizeOf,typeInfo,h1,h3]);(have b:¬m*K.n>2^24:=by have:=xo hm;omega);by_cases h:m=0;subst h;obtain⟨r,hr,hrd⟩:=kz (cells:=#[]) hE hb rfl;refine⟨r,?_,hrd⟩;(have hc:(Array.map (λx=>(default:Value)) (Array.range 0))=#[]:=by simp);simp[execOp,Instr.buildSlice,wo hT,g,newRow,hc,hr];(have c:¬m*K.n=0:=by have:0<m*K.n:=Nat.mul_pos (by omega) h4;omega);have hz:=pO zv.cells m (by omega);obtain⟨r,hr,hrd⟩:=kz (cells:=(Array.range (m*K.n)).map (zv.cells[· %zv.cells.size]!)) hE hb (by rw[←f,hz];exact iH (h5 F) m);refine⟨r,?_,hrd⟩;have:=run_buildSlice (P:=P) w T e m (ps.map λp=>(p.1,a.eval p.2)).toArray r ie zv hT h1 h2 (by rw[h3];exact b) (by rw[h3];exact c) (by rw[h3];simpa using hr);simp only[execOp,xh,this,wv,wm,wF]
theorem Ce {α:Type} {K:Kd α} {T e:TypeId} {z:α} {m:Nat} {ps:List (Nat×Operand)} {ys:List α} (hT:P.underlying T=some (.slice e)) (he:ET P e K z) (hb:eA E K ps (List.replicate m z) ys) (hm:Nat.ble (m*K.n) 16777216=true) (hd:Nat.blt d n=true) (k:bx F0 n ((d,.val (cI K) ys)::E) L (wpList P g Q f)):bx F0 n E L (wpList P g Q (⟨some d,.buildSlice T m ps.toArray,ty,pos,aft,none⟩::f)):=zQ rfl λF a w h0 hE hS=>by obtain⟨cells,hrun,c⟩:=tP (d:=d) (ty:=ty) (pos:=pos) (aft:=aft) hT he hb hm hE w;(have hl:ys.length=m:=by simpa using hb.len);obtain⟨h,i⟩:=iq w (.cells cells e);obtain⟨b,hS'⟩:=BI hS (cD.one w.heap.size (.cells cells e)) (gT w _) h i;(have hc:cells.size=m*K.n:=by have:=c.len;rw[hl] at this;simpa using this);unfold Oper.wp;rw[hrun];refine k _ _ _ (Au h0 b) ((hE.mono b).put hd ?_) hS';simp only[SV.ok];refine⟨[.slice (some ⟨w.heap.size,0,none⟩) m m],⟨some ⟨w.heap.size,0,none⟩,m,by rw[hl],by rw[hl];exact wy _,.inr ⟨⟨w.heap.size,0,none⟩,cells,e,(0,0),rfl,rfl,?_,by rw[hl];simp only;omega,?_⟩⟩,rfl⟩;simp only[Fz.add];rw[gI.fresh hS _ (wy _)];exact zN _ _;rw[xk,wn (by rw[hl];simp;omega)];exact c.mono b
theorem Cf {K:Kd α} {ps:List (Nat×Operand)} {ys:List α} (hT:P.underlying T=some (.slice e)) (he:ET P e K z) (hb:eA E K ps (List.replicate m z) ys) (hm:Nat.ble (m*K.n) 16777216=true) (hd:Nat.blt d n=true) (k:∀v,bx F0 n ((d,.raw v)::E) (.own K v e ys::L) (wpList P f Q c)):bx F0 n E L (wpList P f Q (⟨some d,.buildSlice T m ps.toArray,ty,pos,aft,none⟩::c)):=zQ rfl λF a w h0 hE hS=>by obtain⟨cells,hrun,b⟩:=tP (d:=d) (ty:=ty) (pos:=pos) (aft:=aft) hT he hb hm hE w;(have hl:ys.length=m:=by simpa using hb.len);obtain⟨g,h⟩:=iq w (.cells cells e);(have hc:cells.size=m*K.n:=by have:=b.len;rw[hl] at this;simpa using this);obtain⟨_,_,_,_,_,i,_⟩:=he.out;(have j:m≤maxLen:=by have h9:=xo hm;have:m*1≤m*K.n:=Nat.mul_le_mul_left _ i;simp only[maxLen];omega);have l:St F (w.alloc (.cells cells e)) (.own K (.slice (some ⟨w.heap.size,0,none⟩) m m) e ys::L):=Bd hS (cD.one w.heap.size (.cells cells e)) (.inr ⟨w.heap.size,m,cells,by rw[hl],rfl,by omega,j,hc,by rw[hl,wn (by simp;omega)];exact b⟩) (gT w _) g h;unfold Oper.wp;rw[hrun];exact k _ _ _ _ h0 (hE.put hd (by simp only[SV.ok])) l
end
end Go.Sim
namespace Go.Sim
open Go
section
variable {P:Program} {ops:Array Oper} {Q:Exit→Act→World→Prop} {rest:List Oper} {F0:Fz} {n:Nat} {E:List (Nat×SV)} {L:List bJ}
variable {d:Nat} {op:Op} {ty:TypeId} {pos:String} {aft:Array Edge} {s:SV}
theorem bx.after {x:Code} (A:(Act→World→Prop)→Prop) (hk:A K) (h:∀K',A K'→bx F0 n E L (x.wp P (Exit.then K' Q))):bx F0 n E L (x.wp P (Exit.then K Q)):=h K hk
def zy:=@bx.after
theorem bx.loop [Fu] {S R C:Type} {step:S→Option (j_ S R)} {x0:S} {r:R} {c:Code} (c0:C) (Es:S→C→List (Nat×SV)) (Ls:S→C→List bJ) (d:Loop.run step x0=some r) (hE:∀t v,look (Es x0 c0) t=some v→look E t=some v) (hL:L=Ls x0 c0) (b:∀x y o,step x=some o→(∀q,o= .done q→q=r)→bx F0 n (Es x y) (Ls x y) (c.wp P (Exit.then (λa w=>∃x' y' F,o= .next x'∧F0≤F∧Env F a n (Es x' y')∧St F w (Ls x' y')) Q))):bx F0 n E L ((Code.loop c).wp P Q):=λF a w h0 f hS=>by refine pz d (λx a w=>∃y F,F0≤F∧Env F a n (Es x y)∧St F w (Ls x y)) ⟨c0,F,h0,f.sub hE,hL▸hS⟩ ?_;intro x o a w ho hd ⟨y,F,h0,hE,hS⟩;refine wp_mono (b x y o ho hd F a w h0 hE hS) (λe a w q=>?_);cases e with|normal=>obtain⟨x',y',F,he,hh⟩:=q;exact⟨x',he,y',F,hh⟩|_=>exact q
theorem bx.next {S R C:Type} {o:j_ S R} {Es:S→C→List (Nat×SV)} {Ls:S→C→List bJ} (x':S) (y':C) (ho:(some (j_.next x'):Option (j_ S R))=some o) (hE:∀t v,look (Es x' y') t=some v→look E t=some v) (hL:L=Ls x' y'):bx F0 n E L (λa w=>∃x' y' F,o= .next x'∧F0≤F∧Env F a n (Es x' y')∧St F w (Ls x' y')):=λF a w h0 b hS=>⟨x',y',F,(Option.some.inj ho).symm,h0,b.sub hE,hL▸hS⟩
theorem aE (ho:(some (j_.done q):Option (j_ S R))=some o) (hd:∀q,o= .done q→q=r):q=r:=hd q (Option.some.inj ho).symm
theorem Bg (k:bx F0 n E L K):bx F0 n E L (Exit.then K Q .normal):=k
theorem Cs {id:Nat} (k:bx F0 n E L (Q (.exit id))):bx F0 n E L (Exit.then K Q (.exit id)):=k
theorem BK (k:bx F0 n E L (Q .ret)):bx F0 n E L (Exit.then K Q .ret):=k
theorem Bh {id:Nat} (k:bx F0 n E L (Q .normal)):bx F0 n E L (Exit.inBlock id Q .normal):=k
theorem zw {id:Nat} (k:bx F0 n E L (Q .ret)):bx F0 n E L (Exit.inBlock id Q .ret):=k
theorem Ct {id:Nat} (k:bx F0 n E L (Q .normal)):bx F0 n E L (Exit.inBlock id Q (.exit id)):=λF a w h0 hE hS=>by show(if id=id then Q .normal a w else Q (.exit id) a w);rw[xN rfl];exact k F a w h0 hE hS
theorem Cu {id b:Nat} (h:Nat.beq b id=false) (k:bx F0 n E L (Q (.exit b))):bx F0 n E L (Exit.inBlock id Q (.exit b)):=λF a w h0 hE hS=>by show(if b=id then Q .normal a w else Q (.exit b) a w);rw[xv (λe=>by subst e;simp at h)];exact k F a w h0 hE hS
theorem Bu (k:bx F0 n E (r1::r0::L) X):bx F0 n E (r0::r1::L) X:=bx.perm (List.Perm.swap _ _ _) k
theorem Bv (k:bx F0 n E (r2::r0::r1::L) X):bx F0 n E (r0::r1::r2::L) X:=bx.perm ((List.Perm.cons _ (List.Perm.swap _ _ _)).trans (List.Perm.swap _ _ _)) k
theorem Bw (k:bx F0 n E (r3::r0::r1::r2::L) X):bx F0 n E (r0::r1::r2::r3::L) X:=bx.perm ((List.Perm.cons _ ((List.Perm.cons _ (List.Perm.swap _ _ _)).trans (List.Perm.swap _ _ _))).trans (List.Perm.swap _ _ _)) k
theorem Bx (k:bx F0 n E (r4::r0::r1::r2::r3::L) X):bx F0 n E (r0::r1::r2::r3::r4::L) X:=bx.perm ((List.Perm.cons _ ((List.Perm.cons _ ((List.Perm.cons _ (List.Perm.swap _ _ _)).trans (List.Perm.swap _ _ _))).trans (List.Perm.swap _ _ _))).trans (List.Perm.swap _ _ _)) k
theorem eJ {x:Option α} (h:x.bind f=some r):∃a,x=some a∧f a=some r:=wZ.1 h
theorem z1 (h:(bif c then x else none)=some r):c=true∧x=some r:=by cases c with|true=>exact⟨rfl,h⟩|false=>cases h
theorem ml (hc:c=true) (h:(bif c then A else B)=some r):A=some r:=by subst hc;exact h
theorem oK (hc:c=false) (h:(bif c then A else B)=some r):B=some r:=by subst hc;exact h
theorem Cg (h:look E t=some (.raw (.bool c))) (kt:c=true→bx F0 n E L X) (kf:c=false→bx F0 n E L X):bx F0 n E L X:=by cases hc:c with|true=>exact kt hc|false=>exact kf hc
theorem Ch (hc:c=b) (hj:((a[j]?).bind (·.dst))=some g) (hb:look E g=some (.raw (.bool c))) (k:bx F0 n E L (wpList P a Q (⟨o,op,ty,pos,aft,none⟩::rest))):bx F0 n E L (wpList P a Q (⟨o,op,ty,pos,aft,some (j,b)⟩::rest)):=by subst hc;exact Cp hj hb k
theorem Ci (hc:c= !b) (hj:((ops[j]?).bind (·.dst))=some g) (hb:look E g=some (.raw (.bool c))) (hu:Nat.blt u n=true) (k:bx F0 n ((u,.raw undef)::E) L (wpList P ops Q rest)):bx F0 n E L (wpList P ops Q (⟨some u,op,ty,pos,aft,some (j,b)⟩::rest)):=by subst hc;exact bx.skip hj hb hu k
def lZ (J Z E:List (Nat×SV)):Bool:=J.all λq=>(look Z q.1).isSome||(look E q.1).isNone
theorem jk (J E:List (Nat×SV)) (t:Nat):look (J++E) t=match look J t with|some s=>some s|none=>look E t:=by induction J with|nil=>rfl|cons q J ih=>obtain⟨k,v⟩:=q;simp only[xP,bS];split<;>simp_all
theorem l5 (h:lZ J Z E=true) (hz:look Z t=none) (hs:look E t=some s):look J t=none:=by induction J with|nil=>rfl|cons q J ih=>obtain⟨k,v⟩:=q;simp only[lZ,zo,wq,xV] at h;rw[bS];split;rename_i hk;subst hk;rw[hs,hz] at h;simp at h;exact ih h.2
inductive mG (E1:List (Nat×SV)):List (Nat×SV)→Prop where
 |nil:mG E1 []
 |cons {t:Nat} {s s':SV} {Z:List (Nat×SV)} (h:look E1 t=some s') (e:s'=s) (r:mG E1 Z):mG E1 ((t,s)::Z)
theorem mG.spec (h:mG E1 Z):∀t s,look Z t=some s→look E1 t=some s:=by induction h with|nil=>intro t s h;cases h|cons h e r ih=>intro t s hl;rw[bS] at hl;split at hl;rename_i hk;subst hk;cases hl;subst e;exact h;exact ih t s hl
theorem uR (m:Nat) {E1:List (Nat×SV)} (hj:lZ (E1.take m) Z (E1.drop m)=true) (hz:mG E1 Z):∀t v,look (Z++E1.drop m) t=some v→look E1 t=some v:=by intro t v h;rw[jk] at h;split at h;rename_i s hs;cases h;exact hz.spec t _ hs;rename_i a;have:=l5 hj a h;rw[←xn m E1,jk,this];exact h
theorem Cj (m:Nat) {E1:List (Nat×SV)} (hz:mG E1 Z) (hj:lZ (E1.take m) Z (E1.drop m)=true) (k:bx F0 n (Z++E1.drop m) L X):bx F0 n E1 L X:=A8 (uR m hj hz) k
theorem zZ (e:s'=s) (k:bx F0 n ((t,s)::E) L X):bx F0 n ((t,s')::E) L X:=e▸k
theorem tQ (hc:c=true):(c||e)=true:=by subst hc;rfl
theorem ib (hc:c=true):SV.raw (.bool true)= .raw (.bool (c||e)):=by subst hc;rfl
theorem kA (hc:c=false):SV.raw (.bool e)= .raw (.bool (c||e)):=by subst hc;rfl
theorem kX (hc:c=true):SV.raw (.bool e)= .raw (.bool (c&&e)):=by subst hc;rfl
theorem kY (hc:c=false):SV.raw (.bool false)= .raw (.bool (c&&e)):=by subst hc;rfl
theorem BW (k:bx F0 n E' L X) (hs:∀t v,look E' t=some v→look E t=some v):bx F0 n E L X:=A8 hs k
def bT (F:Fz) (n:Nat) (E:List (Nat×SV)) (X:Act→Prop):Prop:=∀a,Env F a n E→X a
theorem BX {id:Nat} {l:List Oper} (hm:P.follows .mixedOrders=true) (hB:Region.lexB .any l.toArray=true) (k:∀F,F0≤F→bT F n E (wpQuiet P l.toArray (Cl F L) (λa=>∀w,Cl F L w→Q .normal a w) l)):bx F0 n E L ((Code.region id l.toArray true).wp P Q):=λF a w h0 hE hS=>wp_region_quiet (C:=Cl F L) hm hB ⟨F,A5 F,gI.drew hS⟩ (by simpa using k F h0 a hE)
variable {F:Fz} {Qa:Act→Prop}
theorem B5 (h:ea P n E L ⟨some d,op,ty,pos,aft,none⟩ s) (hd:Nat.blt d n=true) (k:bT F n ((d,s)::E) (wpQuiet P c (Cl F L) Qa b)):bT F n E (wpQuiet P c (Cl F L) Qa (⟨some d,op,ty,pos,aft,none⟩::b)):=λa hE=>by obtain⟨v,hv,hw⟩:=h F a hE;unfold wpQuiet;rw[xN (by simp[Region.wanted])];exact⟨v,hw,k _ (hE.put hd hv)⟩
theorem CG (hj:((c[j]?).bind (·.dst))=some g) (hb:look E g=some (.raw (.bool b))) (k:bT F n E (wpQuiet P c C Qa (⟨o,op,ty,pos,aft,none⟩::rest))):bT F n E (wpQuiet P c C Qa (⟨o,op,ty,pos,aft,some (j,b)⟩::rest)):=λa hE=>by have hk:=k a hE;obtain⟨v,hv,he⟩:=hE.at_ g _ hb;simp only[SV.ok] at he;subst he;(have hy:yielded c a.tmps j=some b:=by simp[yielded,hj,hv]);unfold wpQuiet at hk⊢;simp only[Region.wanted,zr,hy,yO] at hk⊢;exact hk
theorem bT.nil {C:World→Prop} (h0:F0≤F) (k:bx F0 n E L (Q .normal)):bT F n E (wpQuiet P b C (λa=>∀w,Cl F L w→Q .normal a w) []):=λa hE w ⟨G,hg,hS⟩=>k G a w (Au h0 hg) (hE.mono hg) hS
theorem CE (hc:c=b) (hj:((a[j]?).bind (·.dst))=some g) (hb:look E g=some (.raw (.bool c))) (k:bT F n E (wpQuiet P a C Qa (⟨o,op,ty,pos,aft,none⟩::rest))):bT F n E (wpQuiet P a C Qa (⟨o,op,ty,pos,aft,some (j,b)⟩::rest)):=by subst hc;exact CG hj hb k
theorem zF (k:bx F0 n E (.own K (.slice none 0 0) e []::L) X):bx F0 n E L X:=λF a w h0 hE hS=>by refine k F a w h0 hE ⟨cD.emp,.inl ⟨rfl,rfl,rfl⟩,λb hb=>absurd rfl hb,?_⟩;rw[Av];exact hS
theorem BY {α:Type} {K:Kd α} {v:Value} {e:TypeId} {xs:List α} {t:Nat} {X:Act→World→Prop} (ht:look E t=some (.raw v)) (k:bx F0 n ((t,.val (cI K) xs)::E) L X):bx F0 n E (.own K v e xs::L) X:=λF a w h0 hE hS=>by obtain⟨h,hh,hap,b,hS'⟩:=hS.freeze;refine k _ a w (Au h0 b) ⟨hE.defers,hE.size,λu r hl=>?_⟩ hS';rw[bS] at hl;split at hl;rename_i hk;subst hk;cases hl;obtain⟨v',h1,h2⟩:=hE.at_ t _ ht;simp only[SV.ok] at h2;subst h2;refine⟨_,h1,?_⟩;simp only[SV.ok];rcases hh with⟨rfl,rfl,_⟩|⟨g,cap,cur,rfl,rfl,h3,h4,h5,h6⟩;exact⟨[.slice none 0 0],⟨none,0,rfl,wy _,.inl rfl⟩,rfl⟩;refine⟨[.slice (some ⟨g,0,none⟩) xs.length cap],⟨_,cap,rfl,h3,.inr ⟨⟨g,0,none⟩,cur,e,(0,0),rfl,rfl,?_,?_,by simpa using h6⟩⟩,rfl⟩;have hg:F.blk g=none:=hap g (by rw[zN];simp);simp only[Fz.add,hg];exact zN _ _;have:xs.length*K.n≤cap*K.n:=wh _ h3;simp only;omega;exact(hE.mono b).at_ u r hl
structure AT {α:Type} (P:Program) (e:TypeId) (K:Kd α) (z:α) (bytes:Nat):Prop where
 out:∃ie zv,P.info? e=some ie∧ie.zero=some zv∧ie.size=K.n∧ie.bytes=bytes∧0<K.n∧bytes≤4096∧∀F,K.rd F zv.cells.toList z
def c7:Nat:=17179869184
def app {α:Type} (xs ys:List α):Option (List α):=if xs.length+ys.length≤c7 then some (xs++ys) else none
theorem jl {xs ys:List α} (h:app xs ys=some zs):xs.length+ys.length≤c7∧zs=xs++ys:=by unfold app at h;split at h;exact⟨‹_›,(Option.some.inj h).symm⟩;cases h
theorem qM {K:Kd α} {bytes:Nat} {xs ys:List α} {w:World} (x:xs.length+ys.length≤c7) (hT:P.underlying t=some (.slice e)) (he:AT P e K z bytes)
   (hh:(bJ.own K v e xs).holds F h) (B:∀b o,h b=some o→w.heap[b]? =some o) {cap2:Nat} {c:List Value} (i:c.length=ys.length*K.n) (C:bd K F c ys) (I:∀u∈c,u.oneCell'=true)
   (A:ad=none→ys.length=0) (L:∀p,ad=some p→∀j u,c[j]? =some u→w.cell? (p.add j)=some u):
   ∃v' w' h',(Builtin.append_ #[t,t] ty #[v,.slice ad ys.length cap2]).run P w= .ok v' w'∧(bJ.own K v' e (xs++ys)).holds F h'∧yG w w' h∧(∀b,h' b≠none→h b≠none∨w.heap.size≤b)∧(∀b o,h' b=some o→w'.heap[b]? =some o):=by
 obtain⟨ie,zv,h1,h2,h3,h4,h5,h6,h7⟩:=he.out
 have M:zv.cells.size=K.n:=by have:=K.len (h7 F);simpa using this
 have q:(xs.length+ys.length)*ie.bytes≤140737488355328:=by
   have:(xs.length+ys.length)*ie.bytes≤c7*4096:=Nat.mul_le_mul x (by omega)
   unfold c7 at this;omega
 have r:xs.length+ys.length≤maxLen:=by unfold c7 at x;simp only[maxLen];omega
 have N:xs.length+ys.length≤9223372036854775807:=by simp only[maxLen] at r;omega
 have f:(xs++ys).length=xs.length+ys.length:=by simp
 -- nothing is G
 by_cases hy:ys.length=0
 · have:ys=[]:=wR hy
   subst this
   have hn:c=[]:=wR (by simpa using i)
   subst hn
   refine⟨v,w,h,?_,by simpa using hh,⟨rfl,rfl,rfl,λ_ _ _=>rfl⟩,λb hb=> .inl hb,B⟩
   rcases hh with⟨rfl,rfl,_⟩|⟨g,cap,d,rfl,_,h8,_⟩
   · cases ad<;>simp[Builtin.append_,wo hT,sizeOf,typeInfo,h1,Builtin.lenOf,Builtin.firstCells,loadCells,loadCellsFrom]
   · cases ad<;>simp[Builtin.append_,wo hT,sizeOf,typeInfo,h1,Builtin.lenOf,Builtin.firstCells,loadCells,loadCellsFrom,h8,storeCells]
 · obtain⟨p,rfl⟩:∃p,ad=some p:=by
     cases ad with
     |none=>exact absurd (A rfl) hy
     |some p=>exact⟨p,rfl⟩
   have m:=L p rfl
   -- a R S
   have y:∀(l:Nat) (olds:List Value),bd K F olds xs→l<xs.length+ys.length→
       (bJ.own K (.slice (some ⟨w.heap.size,0,none⟩) (xs.length+ys.length) (grownCap w (xs.length+ys.length) l e)) e (xs++ys)).holds F
         (cD.one w.heap.size (.cells (olds.toArray++c.toArray++Builtin.zeroCells zv.cells (grownCap w (xs.length+ys.length) l e - (xs.length+ys.length))) e (0,0))):=by
     intro l olds ho T
     have O:=grownCap_ge w (xs.length+ys.length) l e
     have Q:grownCap w (xs.length+ys.length) l e≤maxLen:=grownCap_le_maxLen w (xs.length+ys.length) l e r
     have D:=ho.len
     refine .inr ⟨w.heap.size,_,_,by rw[f],rfl,by rw[f];exact O,Q,?_,?_⟩
     · simp only[Array.size_append,xT,size_zeroCells,M,D,i,←xp]
       congr 1;omega
     · rw[f]
       simp only[Array.toList_append]
       have e1:(olds++c).length=(xs.length+ys.length)*K.n:=by rw[wi,D,i,xp]
       rw[←e1,xl];exact ho.append C
   have alloc:∀(cells:Array Value),yG w (w.drew.alloc (.cells cells e)) h∧(∀b,cD.one w.heap.size (.cells cells e (0,0)) b≠none→h b≠none∨w.heap.size≤b)∧
       (∀b o,cD.one w.heap.size (.cells cells e (0,0)) b=some o→(w.drew.alloc (.cells cells e)).heap[b]? =some o):=by
     intro cells
     obtain⟨a1,a2⟩:=iq w (.cells cells e)
     exact⟨⟨rfl,rfl,rfl,λb hb _=>yN w _ b hb⟩,λb hb=> .inr (a1 b hb),a2⟩
   rcases hh with⟨rfl,rfl,rfl⟩|⟨g,cap,d,rfl,rfl,a3,a4,a5,a6⟩
   · have hr:=run_append_nil (P:=P) w t ty e ie zv hT h1 h2 p ys.length cap2 c (by rw[h3];exact i) m (by omega) (by simp only[xc] at r;omega) (by have hb:=q;simp only[xc,wL] at hb;omega)
     have hf:=y 0 [] rfl (by simp;omega)
     simp only[xc,wL,yr,wQ] at hf⊢
     exact⟨_,_,_,hr,hf,alloc _⟩
   · have hg:=B g _ (zN _ _)
     by_cases hr:xs.length+ys.length≤cap
     · have H:xs.length*ie.size+c.length≤d.size:=by rw[i,h3,a5,←xp];exact wh _ hr
       have s:=run_append_room (P:=P) w t ty e ie hT h1 g xs.length cap d hg p ys.length cap2 c (by rw[h3];exact i) m I hr H
       refine⟨_,_,cD.one g (.cells (d.toList.take (xs.length*ie.size)++c++d.toList.drop (xs.length*ie.size+c.length)).toArray e (0,0)),s,.inr ⟨g,cap,_,by rw[f],rfl,by rw[f];exact hr,a4,?_,?_⟩,
         ⟨rfl,rfl,rfl,λk _ hn=>setRow_other w g k _ (λe=>by rw[e,zN] at hn;cases hn)⟩,λb hb=> .inl ?_,λb o e'=>?_⟩
       · simp only[xT,wi,wx,wO,xg]
         omega
       · rw[f]
         have e1:(d.toList.take (xs.length*ie.size)++c).length=(xs.length+ys.length)*K.n:=by
           rw[wi,wx,i,h3,xp]
           have:xs.length*K.n≤d.toList.length:=by simp only[xg,a5];exact wh _ a3
           omega
         rw[←e1,xl,h3];exact a6.append C
       · by_cases E:b=g
         · subst E;rw[zN];simp
         · exact absurd (AA _ E) hb
       · obtain⟨rfl,rfl⟩:=As e';exact setRow_heap w b d _ e _ hg
     · have holds:∀j u,(d.toList.take (xs.length*K.n))[j]? =some u→w.cell? ((⟨g,0,none⟩:Addr).add j)=some u:=fun j u hu=>by
         have hj:j<xs.length*K.n:=by have:=(we.1 hu).1;rw[a6.len] at this;exact this
         rw[wP,wL,zb w g j d e (0,0) hg]
         rw[wu hj] at hu;simpa using hu
       have s:=run_append_grow (P:=P) w t ty e ie zv hT h1 h2 ⟨g,0,none⟩ xs.length cap (d.toList.take (xs.length*K.n)) (by rw[h3];exact a6.len) holds p ys.length cap2 c (by rw[h3];exact i) m (by omega) (by omega) (zm (by omega) q)
       have hf:=y cap _ a6 (by omega)
       exact⟨_,_,_,s,hf,alloc _⟩
theorem bx.app {K:Kd α} {bytes:Nat} {ys:List α} (hz:app xs ys=some zs) (hT:P.underlying t=some (.slice e)) (he:AT P e K z bytes) (hS:ev E S=some (.raw v)) (hV:ev E V=some s) (hr:eH s (cI K) ys) (hd:Nat.blt d n=true) (k:∀v',bx F0 n ((d,.raw v')::E) (.own K v' e zs::L) (wpList P D Q C)):bx F0 n E (.own K v e xs::L) (wpList P D Q (⟨some d,.call ⟨.builtin .append,#[S,V],#[t,t]⟩,ty,pos,aft,none⟩::C)):=zQ rfl λF a w h0 hE A=>by obtain⟨m,rfl⟩:=jl hz;have G:=hr F _ (hE.eval hV);obtain⟨cs,⟨ad,cap2,rfl,_,r⟩,g⟩:=G;have g:a.eval V= .slice ad ys.length cap2:=g;(obtain⟨f,H,I,M,y,N⟩:∃f:List Value,f.length=ys.length*K.n∧bd K F f ys∧(∀u∈f,u.oneCell'=true)∧(ad=none→ys.length=0)∧(∀p,ad=some p→∀j u,f[j]? =some u→w.cell? (p.add j)=some u):=by rcases r with h0|⟨p,c,e',fr,rfl,hp,hb,O,hrd⟩;have:ys=[]:=wR h0;subst this;exact⟨[],by simp,rfl,by simp,λ_=>rfl,λp _ j u hu=>by simp at hu⟩;refine⟨_,hrd.len,hrd,hrd.one,λh=>(by cases h),λq hq j u hu=>?_⟩;cases hq;(have hj:j<ys.length*K.n:=by have:=(we.1 hu).1;rw[hrd.len] at this;exact this);have B:=A.on.blk _ _ hb;obtain⟨pb,po,ps⟩:=p;simp only at hp hb O B;subst hp;rw[wP,zb w pb (po+j) c e' fr B];rw[wu hj,wT] at hu;simpa using hu);obtain⟨f0,hh,i,l⟩:=A;have R:∀b o,f0 b=some o→w.heap[b]? =some o:=λb o e=>l.on.blk b o (by have:=i b (by simp[e]);simp[Fz.add,this,e]);obtain⟨v',w',h',r1,r2,r3,r4,r5⟩:=qM (P:=P) (ty:=ty) m hT he hh R H I M y N (cap2:=cap2);(have T:St F w' (.own K v' e (xs++ys)::L):=by refine⟨h',r2,λb hb=>?_,l.change i r3 r4 r5⟩;rcases r4 b hb with x|x;exact i b x;cases e:F.blk b with|none=>rfl|some o=>have:=fA (l.on.blk b o ((F.le_add f0).blk b o e));omega);unfold Oper.wp;simp only[execOp,resolve,invoke,builtin,wv,wF,wm,xh,wS,x7,hE.raw hS,g,r1,Oper.upon];exact k v' F _ _ h0 (hE.put hd (by simp only[SV.ok])) T
end
end Go.Sim
namespace Go.Sim
open Go
section
variable {P:Program} {ops:Array Oper} {Q:Exit→Act→World→Prop} {rest:List Oper} {F0:Fz} {n:Nat} {E:List (Nat×SV)} {L:List bJ}
variable {d:Nat} {op:Op} {ty:TypeId} {pos:String} {aft:Array Edge} {s:SV}
theorem Ck (h:look E t=some s') (hr:eH s' K x) (k:bx F0 n ((t,.val K x)::E) L X):bx F0 n E L X:=λF a w h0 hE hS=>k F a w h0 ⟨hE.defers,hE.size,λu r e=>by rw[bS] at e;split at e;rename_i hk;subst hk;cases e;obtain⟨v,h1,h2⟩:=hE.at_ t _ h;exact⟨v,h1,by simp only[SV.ok];exact hr F v h2⟩;exact hE.at_ u r e⟩ hS
theorem ij {K:Kd α} {v:Value} (h:K.val F v x) (ha:K.agg=true):v= .agg v.cells.toList.toArray∧K.rd F v.cells.toList x:=by have:=h.eq_pack;rw[ha] at this;exact⟨by simpa[pB] using this,h.rd⟩
theorem jm {K:Kd α} (hT:KT P T K) (cs:Array Value) (o:Nat) (c:o+K.n≤cs.size) (w:World):(part T cs o).run P w= .ok (pB K.agg ((cs.toList.drop o).take K.n)) w:=by cases ha:K.agg with|true=>have h1:=lY (P:=P) (by rw[hT.agg,ha]:rE P T=some true) w;have h2:=cc hT.size w;simp only[part,wv,h1,wm,zr,h2,wF,pB];congr 2;apply Array.ext';simp[List.extract,List.take_drop]|false=>have h1:=lY (P:=P) (by rw[hT.agg,ha]:rE P T=some false) w;have hn:=K.sole ha;(have a:o<cs.size:=by omega);(have b:((cs.toList.drop o).take K.n)=[cs[o]]:=by rw[hn,List.drop_eq_getElem_cons (by simpa using a)];simp);simp only[part,wv,h1,wm];simp[a,b,pB]
theorem B6 {K:Kd α} {xs:List α} {i:Int} (hx:idx xs i=some x) (hT:P.underlying T=some (.array m e)) (he:KT P e K) (hX:ev E X=some (.val (bG m K) xs)) (hI:ev E I=some (.raw (.int q i))):ea P n E L ⟨some d,.index T X I,ty,pos,aft,none⟩ (.val K x):=zX λF a hE=>by have:=hE.eval hX;simp only[SV.ok] at this;obtain⟨hv,hrd⟩:=ij this rfl;obtain⟨h0,h1,hx⟩:=eO hx;have hm:xs.length=m:=hrd.1;have b:=hrd.2.len;have h2:(i.toNat+1)*K.n≤xs.length*K.n:=wh _ (by omega);rw[w7] at h2;refine⟨_,by simp only[SV.ok];exact⟨_,hrd.2.get hx,rfl⟩,λw=>?_⟩;have hp:=jm he (a.eval X).cells.toList.toArray (i.toNat*K.n) (by simp only[xT,b];exact h2) w;rw[execOp];simp only[hE.raw hI];rw[hv];(have c:i<(m:Int):=by omega);simp[Instr.index,asIntOf,wo hT,h0,c,cc he.size] at hp⊢;simp[Value.cells] at hp⊢;rw[hp];rfl
theorem BL (hx:idx xs i=some x) (hT:P.underlying T=some (.array m e)) (he:KT P e (bB k)) (hX:ev E X=some (.val (bG m (bB k)) xs)) (hI:ev E I=some (.raw (.int q i))):ea P n E L ⟨some d,.index T X I,ty,pos,aft,none⟩ (.raw (.int k x)):=Bf (B6 hx hT he hX hI)
theorem ea.min2 (hX:ev E X=some (.raw (.int k x))) (hY:ev E Y=some (.raw (.int k y))):ea P n E L ⟨some d,.call ⟨.builtin .min,#[X,Y],#[t,u]⟩,ty,pos,aft,none⟩ (.raw (.int k (min x y))):=Ac λF a hE w=>by(have e:(if y<x then y else x)=min x y:=by split<;>omega);simp[execOp,resolve,invoke,builtin,hE.raw hX,hE.raw hY,Builtin.min_,Builtin.min2] at e⊢;exact e
theorem tS {K:Kd α} (hT:KT P T K) {F:Fz} (hon:F.on w) (hp:pG F p K x):∃v,(loadVar T p).run P w= .ok v w∧K.val F v x:=by obtain⟨c,e,fr,hs,hb,hle,hr⟩:=hp.out;have:=f7 hT hs (hon.blk _ _ hb) hle;exact⟨_,by simpa[Instr.loadAt,Instr.sureAddr] using this,⟨_,hr,rfl⟩⟩
end
end Go.Sim
namespace Go.Sim
open Go
structure uH {α:Type} [BEq α] (P:Program) (T:TypeId) (K:Kd α) (dep:Nat):Prop where
 eq:∀{d F v u x y w},K.val F v x→K.val F u y→(Op.equalIn (d+dep) T v u).run P w= .ok (x==y) w
theorem uH.int {P:Program} (h:P.underlying T=some (.int k')):uH P T (bB k) 1:=⟨λ{d F v u x y w} h1 h2=>by rw[lx] at h1 h2;subst h1;subst h2;exact run_equalIn_int w d T k k' x y h⟩
theorem uH.bool {P:Program} (h:P.underlying T=some .bool):uH P T jg 1:=⟨λ{d F v u x y w} h1 h2=>by rw[pL] at h1 h2;subst h1;subst h2;exact run_equalIn_bool w d T x y h⟩
theorem kZ [BEq α] {P:Program} {K:Kd α} (he:uH P e K f) (hk:KT P e K) (hc:P.cellsOf e=K.n) {cs ds:List Value}:∀{xs ys:List α} {is:List Nat} {j:Nat},xs.length=ys.length→is=List.range' j xs.length→bd K F (cs.drop (j*K.n)) xs→bd K F (ds.drop (j*K.n)) ys→(Op.eqItems (d+f) e (P.cellsOf e) cs.toArray ds.toArray is).run P w= .ok (xs==ys) w|[],[],is,j,_,hi,_,_=>by subst hi;simp[Op.eqItems]|x::xs,y::ys,is,j,hl,hi,hx,hy=>by subst hi;simp only[xu,List.range'_succ];obtain⟨c,c',e1,h1,r1⟩:=hx;obtain⟨q,q',e2,h2,r2⟩:=hy;have lc:=K.len h1;have lq:=K.len h2;(have a:j*K.n+K.n≤cs.length:=by rcases Nat.eq_zero_or_pos K.n with h0|h0;rw[h0];simp;have:=congrArg List.length e1;simp only[wO,wi] at this;omega);(have b:j*K.n+K.n≤ds.length:=by rcases Nat.eq_zero_or_pos K.n with h0|h0;rw[h0];simp;have:=congrArg List.length e2;simp only[wO,wi] at this;omega);have p1:=jm hk cs.toArray (j*K.n) (by simpa using a) w;have p2:=jm hk ds.toArray (j*K.n) (by simpa using b) w;(have t1:(cs.drop (j*K.n)).take K.n=c:=by rw[e1,←lc,xl]);(have t2:(ds.drop (j*K.n)).take K.n=q:=by rw[e2,←lq,xl]);simp only[t1,t2] at p1 p2;have hq:=he.eq (d:=d) (w:=w) ⟨c,h1,rfl⟩ ⟨q,h2,rfl⟩;(have d1:cs.drop ((j+1)*K.n)=c':=by rw[w7,←wU,e1,←lc,yM]);(have d2:ds.drop ((j+1)*K.n)=q':=by rw[w7,←wU,e2,←lq,yM]);have ih:=kZ he hk hc (d:=d) (cs:=cs) (ds:=ds) (w:=w) (xs:=xs) (ys:=ys) (is:=List.range' (j+1) xs.length) (j:=j+1) (by simpa using hl) rfl (by rw[d1];exact r1) (by rw[d2];exact r2);rw[hc] at ih⊢;simp only[Op.eqItems,wv,p1,p2,hq,wm];show _=Result.ok ((x==y)&&(xs==ys)) w;cases g:(x==y);simp;simp only[yV,Bool.false_eq_true,if_false,yT];exact ih|[],_::_,_,_,hl,_,_,_=>by simp at hl|_::_,[],_,_,hl,_,_,_=>by simp at hl
theorem uH.arr [BEq α] {P:Program} {K:Kd α} (he:uH P e K a) (hk:KT P e K) (hT:P.underlying T=some (.array m e)):uH P T (bG m K) (a+1):=⟨λ{d F v u x y w} h1 h2=>by obtain⟨i,hi,hs⟩:=wN.1 hk.size;(have hc:P.cellsOf e=K.n:=by simp[Program.cellsOf,hi,hs]);obtain⟨e1,r1⟩:=ij h1 rfl;obtain⟨e2,r2⟩:=ij h2 rfl;rw[e1,e2,show d+(a+1)=(d+a)+1 by omega,run_equalIn_array w (d+a) _ _ hT hi];exact kZ he hk hc (j:=0) (by rw[r1.1,r2.1]) (by rw[r1.1,List.range_eq_range']) (by simpa using r1.2) (by simpa using r2.2)⟩
section
variable {P:Program} {ops:Array Oper} {Q:Exit→Act→World→Prop} {rest:List Oper} {F0:Fz} {n:Nat} {E:List (Nat×SV)} {L:List bJ}
variable {d:Nat} {op:Op} {ty:TypeId} {pos:String} {aft:Array Edge} {s:SV}
theorem CA [BEq α] {K:Kd α} (he:uH P T K b) (hg:P.eqGuardType P.depth T=false) (ha:K.agg=true) (c:Nat.ble b 10000=true) (hX:ev E X=some s1) (h1:eH s1 K x) (hY:ev E Y=some s2) (h2:eH s2 K y):ea P n E L ⟨some d,.binOp .neq T X Y u,ty,pos,aft,none⟩ (.raw (.bool (x != y))):=Ac λF a hE w=>by have v1:=h1 F _ (hE.eval hX);have v2:=h2 F _ (hE.eval hY);have hq:=he.eq (d:=10000 - b) (w:=w) v1 v2;rw[show 10000 - b+b=10000 by have:=xo c;omega] at hq;obtain⟨e1,_⟩:=ij v1 ha;obtain⟨e2,_⟩:=ij v2 ha;rw[e1,e2] at hq;rw[execOp];simp only[];rw[e1,e2];simp only[eqGuard,wv,run_program,wm,hg,run_neq_struct,hq];simp[hg,run_neq_struct,hq,bne]
def mA (l c:Int):Bool:=decide (0≤l)&&decide (l≤c)&&decide (c≤(c7:Int))
theorem tT (h:mA l c=true):0≤l∧l≤c∧c≤(c7:Int):=by simp only[mA,wq,wz] at h;exact⟨h.1.1,h.1.2,h.2⟩
theorem l8 {K:Kd α} {bytes:Nat} (hT:P.underlying T=some (.slice e)) (he:AT P e K z bytes) {l c:Int} (h0:0≤l) (h1:l≤c) (h2:c≤(c7:Int)) (F:Fz) (w:World):∃cells:Array Value,(Instr.makeSlice T (.int k l) (.int k' c)).run P w= .ok (.slice (some ⟨w.heap.size,0,none⟩) l.toNat c.toNat) (w.alloc (.cells cells e))∧bd K F cells.toList (List.replicate c.toNat z):=by obtain⟨ie,zv,i1,i2,i3,i4,i5,i6,i7⟩:=he.out;(have hzs:zv.cells.size=K.n:=by have:=K.len (i7 F);simpa using this);have hr:(c7:Int)=17179869184:=rfl;have e1:IntKind.i64.wrap l=l:=IntWalk.i64_in _ (by omega);have e2:IntKind.i64.wrap c=c:=IntWalk.i64_in _ (by omega);(have hb:(ie.bytes:Int)*c≤2^48:=by have:(ie.bytes:Int)*c≤4096*17179869184:=Int.mul_le_mul (by omega) (by omega) (by omega) (by omega);omega);refine⟨(Array.range (c.toNat*zv.cells.size)).map (zv.cells[· %zv.cells.size]!),?_,by rw[pO zv.cells c.toNat (by omega)];exact iH (i7 F) _⟩;(have g1:¬(c<0):=by omega);(have g2:¬((ie.bytes:Int)*c>2^48):=by omega);(have g3:¬(l<0):=by omega);(have g4:¬(l>c):=by omega);(have hsz:(sizeOf e).run P w= .ok K.n w:=by simp[sizeOf,typeInfo,i1,i3]);(have hbytes:c.toNat*ie.bytes≤roomBytes:=by have h9:(c.toNat*ie.bytes:Nat)≤17179869184*4096:=Nat.mul_le_mul (by omega) (by omega);unfold roomBytes;omega);(have hask:(askRoom (c.toNat*ie.bytes)).run P w= .ok () w:=by simp[askRoom,Nat.not_lt.2 hbytes]);simp only[Instr.makeSlice,wv,wo hT,asInt,asIntOf,wF,wm,typeInfo,run_program,i1,e1,e2];rw[xv (by simp only[g1,g2,g3,g4];simp)];simp only[wv,hask,hsz,wm];by_cases hc0:c.toNat*K.n=0;(have hc1:c.toNat=0:=by rcases Nat.mul_eq_zero.1 hc0 with h|h;exact h;omega);rw[xN hc0];(have hr0:∀f:Nat→Value,Array.map f (Array.range 0)=#[]:=λf=>by simp);simp[hc1,newRow,gp,hr0];rw[xv hc0];have hz:=jj (P:=P) (T:=e) (v:=zv) (by rw[i1];exact i2) w;simp[hz,newRow,gp,hzs]
theorem bx.mk {K:Kd α} {bytes:Nat} {l c:Int} (h:mA l c=true) (hT:P.underlying T=some (.slice e)) (he:AT P e K z bytes) (hL:ev E Ln=some (.raw (.int k l))) (hC:ev E C=some (.raw (.int k' c))) (hd:Nat.blt d n=true) (kk:∀v,bx F0 n ((d,.raw v)::E) (.own K v e (List.replicate l.toNat z)::L) (wpList P ops Q rest)):bx F0 n E L (wpList P ops Q (⟨some d,.makeSlice T Ln C,ty,pos,aft,none⟩::rest)):=zQ rfl λF a w h0 hE hS=>by obtain⟨l0,l1,l2⟩:=tT h;obtain⟨cells,hrun,hrd⟩:=l8 (P:=P) hT he l0 l1 l2 (k:=k) (k':=k') F w;obtain⟨hn1,hn2⟩:=iq w (.cells cells e);(have hc:cells.size=c.toNat*K.n:=by have:=hrd.len;simpa using this);have hr:(c7:Int)=17179869184:=rfl;have hS':St F (w.alloc (.cells cells e)) (.own K (.slice (some ⟨w.heap.size,0,none⟩) l.toNat c.toNat) e (List.replicate l.toNat z)::L):=Bd hS (cD.one w.heap.size (.cells cells e)) (.inr ⟨w.heap.size,c.toNat,cells,by simp,rfl,by simp;omega,by simp only[maxLen];omega,hc,by have:=hrd.take l.toNat;simpa[List.take_replicate,wX (by omega:l.toNat≤c.toNat)] using this⟩) (gT w _) hn1 hn2;unfold Oper.wp;simp only[execOp,hE.raw hL,hE.raw hC,wv,hrun,wm,wF,Oper.upon];exact kk _ _ _ _ h0 (hE.put hd (by simp only[SV.ok])) hS'
def Aj:=@bx.mk
end
end Go.Sim
