import Derived.Deep.MidRow
import Derived.WalkKit
import Derived.Deep.Quiet
import Derived.Great.BuildSlice
import Derived.KernelRfl
import Derived.ChangeKeysEq
import Derived.Laws.StructEq
import Derived.Laws.OwnMore
set_option linter.all false
set_option autoImplicit true
set_option relaxedAutoImplicit true
set_option autoImplicit true
set_option relaxedAutoImplicit true
namespace Go.Sim
open Go
def Il:=@cond_false
def Im:=@cond_true
def Io:=@decide_eq_true
def Ip:=@decide_eq_false
def Iq:=@Int.toNat_natCast
def Ir:=@of_decide_eq_true
def Is:=@Option.bind_some
def It:=@List.getElem?_eq_some_iff
def Iu:=@List.length_append
def Iv:=@Result.andThen_ok
def Iw:=@decide_eq_false_iff_not
def Ix:=@Bool.and_eq_true
def Iy:=@Bool.or_eq_false_iff
def Iz:=@Nat.mul_le_mul_right
def IA:=@List.take_succ_eq_append_getElem
def IB:=@decide_eq_true_eq
def IC:=@Sem.run_bind
def ID:=@List.take_of_length_le
def IE:=@run_underlying
def IF:=@List.getElem_mem
def IG:=@Nat.zero_le
def IH:=@bne_self_eq_false
def II:=@of_decide_eq_false
def IJ:=@Sem.run_pure
def IK:=@List.mem_append
def IL:=@Nat.le_refl
def IM:=@List.length_take
def IN:=@List.length_cons
def IP:=@List.nil_append
def IQ:=@Bool.not_true
def IR:=@List.append_assoc
def IS:=@List.eq_nil_of_length_eq_zero
def IT:=@List.getElem?_take_of_lt
def IU:=@List.map_cons
def IW:=@List.getElem?_eq_getElem
def IX:=@Nat.zero_add
def IY:=@List.take_length
def IZ:=@List.length_drop
def I0:=@List.mem_of_getElem?
def I6:=@Array.getElem?_setIfInBounds_self_of_lt
def I7:=@List.length_nil
def I8:=@List.length_map
def I9:=@List.mem_cons
def Ja:=@Bool.eq_iff_iff
def Jb:=@Option.getD_some
def Jc:=@List.getElem?_drop
def Jd:=@List.mem_map
def Je:=@Addr.add_mid
def Jf:=@if_neg
def Jg:=@List.getElem?_range
def Jh:=@Option.map_eq_some_iff
def Ji:=@List.mem_singleton
def Jj:=@List.flatMap_cons
def Jk:=@Nat.succ_mul
def Jl:=@List.take_append_drop
def Jm:=@if_pos
def Jn:=@List.map_append
def Jo:=@List.mem_of_mem_take
def Jp:=@Option.bind_eq_some_iff
def Jq:=@Nat.min_eq_left
def Jr:=@List.length_filter_le
def Js:=@List.drop_drop
def Jt:=@List.ext_getElem
def Ju:=@Array.getElem?_setIfInBounds_ne
def Jv:=@Nat.le_trans
def Jw:=@Go.MapKept.run_getObj_map
def Jx:=@List.getElem?_eq_none
def Jy:=@List.mem_iff_getElem?
def Jz:=@Nat.eq_of_beq_eq_true
def JA:=@decide_true
def JB:=@List.getElem?_take
def JC:=@List.getElem_of_mem
def JD:=@List.replicate_succ
def JE:=@Bool.true_and
def JF:=@List.all_eq_true
def JG:=@Array.getElem?_eq_getElem
def JH:=@List.map_congr_left
def JI:=@List.getElem?_append
def JJ:=@Bool.not_eq_true'
def JK:=@List.foldl_cons
def JL:=@Bool.not_false
def JM:=@BitVec.toNat_ofInt
def JN:=@List.getD_eq_getElem?_getD
def JO:=@Array.getElem?_toList
def JP:=@Array.length_toList
def JQ:=@List.sublist_append_right
def JR:=@List.map_toArray
def JS:=@List.cons_append
def JT:=@List.map_nil
def JU:=@List.pairwise_cons
def JV:=@Nat.le_of_ble_eq_true
def JW:=@List.append_nil
def JX:=@List.drop_zero
def JY:=@List.mem_range
def JZ:=@Go.MapKept.run_setObj_map
def J1:=@List.drop_eq_getElem_cons
def J2:=@List.getElem_range
def J3:=@List.take_left
def J4:=@List.mem_filter
def J5:=@Bool.or_eq_true
def J6:=@List.set_eq_take_append_cons_drop
def J7:=@List.sublist_append_left
def J8:=@List.size_toArray
def J9:=@List.nodup_append
def Ka:=@List.foldl_append
def Kb:=@Array.getElem?_eq_some_iff
def Kc:=@Nat.add_mul
def Ke:=@beq_iff_eq
def Kf:=@Bool.false_eq_true
def Kg:=@Nat.blt_eq
def Kh:=@Int.natCast_mul
def Ki:=@List.nodup_cons
def Kj:=@List.drop_eq_nil_of_le
def Kk:=@List.getElem_map
def Kl:=@List.pairwise_iff_getElem
def Km:=@List.drop_append_of_le_length
def Kn:=@List.take_append_of_le_length
def Ko:=@Nat.add_sub_cancel
def Kp:=@Array.empty_append
def Kq:=@Nat.xor_lt_two_pow
def Kr:=@Bool.false_or
def Ks:=@decide_false
def Kt:=@List.getElem?_map
def Ku:=@List.take_zero
def Kv:=@List.replicate_zero
def Kw:=@List.length_set
def Kx:=@Option.map_some
def Ky:=@List.range_succ
def Kz:=@BitVec.xor_assoc
def KA:=@List.getElem_set
def KC:=@beq_self_eq_true
def KD:=@getD_set_true
def KE:=@List.take_take
def KF:=@List.mem_of_mem_drop
def KG:=@List.ext_getElem?
def KH:=@List.length_range
def KI:=@List.flatten_cons
def KJ:=@Nat.mul_le_mul_left
def KK:=@Nat.add_zero
def KL:=@Bool.or_false
def KM:=@List.perm_middle
def KN:=@Option.getD_none
def KO:=@List.drop_take
def KP:=@List.filter_append
def KQ:=@Array.getElem?_modify
def KS:=@Nat.sub_self
def KU:=@List.take_add
def KV:=@List.filterMap_cons_some
def KW:=@Nat.mul_le_mul
def KX:=@cell_of_row
def KY:=@Nat.shiftLeft_add_eq_or_of_lt
def KZ:=@Array.append_empty
def La:=@Bool.or_true
def Lb:=@List.mem_filterMap
def Lc:=@BitVec.xor_comm
def Ld:=@Nat.div_le_self
def Le:=@List.length_replicate
def Lg:=@List.set_append_right
def Lh:=@BitVec.eq_of_toNat_eq
def Li:=@Array.getD_eq_getD_getElem?
def Lj:=@List.drop_length_add_append
def Lk:=@List.take_length_add_append
def Ll:=@List.perm_ext_iff_of_nodup
def Lm:=@Go.RowKit.Below.heap_alloc
def Lo:=@Array.getElem?_append_left
def Lp:=@getD_set_ne
def Lq:=@List.filter_cons
def Lr:=@List.mem_flatMap
def Lt:=@Nat.sub_zero
def Lu:=@decide_eq_decide
def Lv:=@Nat.mod_eq_of_lt
def Lw:=@List.flatten_append
def Ly:=@List.filter_eq_self
def Lz:=@Array.toList_modify
def LA:=@ByteArray.toList_eq
def LB:=@if_false
def LC:=@Nat.lt_irrefl
def LD:=@List.sum_cons
def LF:=@BitVec.zero_xor
def LG:=@beq_false_of_ne
def LH:=@if_true
def LI:=@UInt8.toNat_ofNat'
def LJ:=@List.set_cons_zero
def LK:=@Nat.eq_zero_or_pos
def LL:=@Bool.false_and
def LM:=@List.getElem?_set
def LN:=@Nat.le_mul_of_pos_left
def LO:=@Array.toList_push
def LP:=@List.drop_left
def LQ:=@List.pairwise_map
def LR:=@and_true
def LS:=@List.mem_append_right
def LT:=@List.modify_succ_cons
def LU:=@Bool.and_eq_false_iff
def LV:=@List.getElem?_zipWith
def LW:=@List.Perm.append_left
def LX:=@List.not_mem_nil
def LY:=@Nat.shiftLeft_eq
def LZ:=@List.drop_length
def L1:=@List.foldlM_cons
def L2:=@Nat.mod_lt
def L3:=@Nat.pow_le_pow_right
def L4:=@List.mem_append_left
def L5:=@Nat.div_add_mod
def L6:=@List.getD_cons_zero
def L7:=@run_firstCells_some
def L8:=@List.drop_replicate
def L9:=@List.length_pos_iff
def Ma:=@List.filter_sublist
def Mb:=@getElem!_pos
def Mc:=@Nat.zero_mul
def Md:=@mem_ready
def Me:=@List.nodup_nil
def Mf:=@Bool.and_false
def Mg:=@List.mapM_cons
def Mh:=@List.all_cons
def Mi:=@Nat.add_assoc
def CR:List (Nat×IntKind×List Int):=[(1,.u32,[1116352408,1899447441,3049323471,3921009573,961987163,1508970993,2453635748,2870763221,3624381080,310598401,607225278,1426881987,1925078388,2162078206,2614888103,3248222580,3835390401,4022224774,264347078,604807628,770255983,1249150122,1555081692,1996064986,2554220882,2821834349,2952996808,3210313671,3336571891,3584528711,113926993,338241895,666307205,773529912,1294757372,1396182291,1695183700,1986661051,2177026350,2456956037,2730485921,2820302411,3259730800,3345764771,3516065817,3600352804,4094571909,275423344,430227734,506948616,659060556,883997877,958139571,1322822218,1537002063,1747873779,1955562222,2024104815,2227730452,2361852424,2428436474,2756734187,3204031479,3329325298])]
def CS (g:Nat):List (Nat×IntKind×List Int)→Option (IntKind×List Int)|[]=>none|x::r=>cond (Nat.beq x.1 g) (some x.2) (CS g r)
class Bx (heap:Nat→Option Obj):Prop where
 on:∀g k xs,CS g CR=some (k,xs)→∃T fr,heap g=some (.cells (xs.map (Value.int k ·)).toArray T fr)
theorem PO (h:CR=[]) (a:Nat→Option Obj):Bx a:=⟨λg k xs e=>by rw[h] at e;cases e⟩
end Go.Sim
namespace Go.Sim
open Go
structure Fz where
 blk:Nat→Option Obj
 os:Os
 tape:Nat→Question→Nat
 output:Array (Nat×ByteArray)
 glob:Bx blk
structure Fz.le (F G:Fz):Prop where
 blk:∀b o,F.blk b=some o→G.blk b=some o
 os:G.os=F.os
 tape:G.tape=F.tape
 output:G.output=F.output
structure Fz.on (F:Fz) (w:World):Prop where
 blk:∀b o,F.blk b=some o→w.heap[b]? =some o
 os:w.os=F.os
 tape:w.tape=F.tape
 output:w.output=F.output
instance:LE Fz:=⟨Fz.le⟩
theorem NC (F:Fz):F≤F:=⟨λ_ _ h=>h,rfl,rfl,rfl⟩
theorem Nj {F G H:Fz} (h:F≤G) (k:G≤H):F≤H:=⟨λb o e=>k.blk b o (h.blk b o e),k.os.trans h.os,k.tape.trans h.tape,k.output.trans h.output⟩
abbrev dv:=Nat→Option Obj
def dv.emp:dv:=λ_=>none
def dv.one (b:Nat) (o:Obj):dv:=λk=>if k=b then some o else none
theorem Mo (b:Nat) (o:Obj):dv.one b o b=some o:=by simp[dv.one]
theorem MY (o:Obj) (h:k≠b):dv.one b o k=none:=by simp[dv.one,h]
theorem MT (h:dv.one b o k=some q):k=b∧q=o:=by unfold dv.one at h;split at h;exact⟨‹_›,(Option.some.inj h).symm⟩;cases h
def Fz.add (F:Fz) (h:dv):Fz:={F with blk:=λb=>match F.blk b with|some o=>some o|none=>h b,glob:=⟨λg k xs e=>by obtain⟨T,fr,q⟩:=F.glob.on g k xs e;exact⟨T,fr,by simp[q]⟩⟩}
theorem Fz.le_add (F:Fz) (h:dv):F≤F.add h:=⟨λb o e=>by simp[Fz.add,e],rfl,rfl,rfl⟩
theorem Nm (F:Fz):F.add dv.emp=F:=by cases F;simp only[Fz.add,dv.emp,Fz.mk.injEq,LR];funext b;split<;>simp_all
theorem ON {F:Fz} (e:(F.add h).blk b=some o):F.blk b=some o∨(F.blk b=none∧h b=some o):=by simp only[Fz.add] at e;split at e;rename_i q hq;exact .inl (by rw[hq];exact e);rename_i hq;exact .inr ⟨hq,e⟩
theorem Nb {F:Fz}:(F.add h).blk b=none↔F.blk b=none∧h b=none:=by simp only[Fz.add];split<;>simp_all
def yE (F:Fz) (h:dv):Prop:=∀b,h b≠none→F.blk b=none
theorem mW {F:Fz} (hk:∀b,k b≠none→h b=none):(F.add h).add k=(F.add k).add h:=by simp only[Fz.add,Fz.mk.injEq,LR];funext b;cases hF:F.blk b<;>simp only[];cases hh:h b with|none=>cases a:k b<;>simp|some o=>cases a:k b with|none=>simp|some q=>have:=hk b (by simp[a]);simp[hh] at this
inductive tj (S R:Type) where
 |next (s:S)
 |done (r:R)
def Loop.iter {S R:Type} (step:S→Option (tj S R)):Nat→S→Option R|0,_=>none|k+1,s=>match step s with|none=>none|some (.done r)=>some r|some (.next s')=>Loop.iter step k s'
theorem NJ {S R:Type} {step:S→Option (tj S R)}:∀(k:Nat) (s:S) (r:R),Loop.iter step k s=some r→Loop.iter step (k+1) s=some r|0,_,_,h=>by cases h|k+1,s,r,h=>by rw[Loop.iter] at h⊢;split at h;cases h;exact h;exact NJ k _ r h
theorem NB {S R:Type} {step:S→Option (tj S R)} {k:Nat} {s:S} {r:R} (h:Loop.iter step k s=some r):∀m,Loop.iter step (k+m) s=some r|0=>h|m+1=>NJ (k+m) s r (NB h m)
theorem Oj {S R:Type} {step:S→Option (tj S R)} {k m:Nat} {s:S} {r q:R} (h:Loop.iter step k s=some r) (h':Loop.iter step m s=some q):r=q:=by have a:=NB h m;have b:=NB h' k;rw[Nat.add_comm] at b;exact Option.some.inj (a.symm.trans b)
open Classical in
noncomputable def Loop.runC {S R:Type} (step:S→Option (tj S R)) (s:S):Option R:=if h:∃r k,Loop.iter step k s=some r then some h.choose else none
theorem Nz {S R:Type} {step:S→Option (tj S R)} {k:Nat} {s:S} {r:R} (h:Loop.iter step k s=some r):Loop.runC step s=some r:=by have hx:∃r k,Loop.iter step k s=some r:=⟨r,k,h⟩;unfold Loop.runC;rw[dif_pos hx];obtain⟨m,hm⟩:=hx.choose_spec;rw[Oj hm h]
noncomputable def Loop.runN {S R:Type} (n:Nat) (step:S→Option (tj S R)) (s:S):Option R:=match Loop.iter step n s with|some r=>some r|none=>Loop.runC step s
theorem ND {S R:Type} (n:Nat) (step:S→Option (tj S R)) (s:S):Loop.runN n step s=Loop.runC step s:=by unfold Loop.runN;cases e:Loop.iter step n s with|some q=>exact(Nz e).symm|none=>rfl
class Fu where
 n:Quot (λ_ _:Nat=>True)
theorem Fu.one (a b:Fu):a=b:=by obtain⟨a⟩:=a;obtain⟨b⟩:=b;congr 1;induction a using Quot.ind;induction b using Quot.ind;exact Quot.sound trivial
abbrev Fu.of (n:Nat):Fu:=⟨Quot.mk _ n⟩
noncomputable def Loop.run [f:Fu] {S R:Type} (step:S→Option (tj S R)) (s:S):Option R:=Quot.lift (λn=>Loop.runN n step s) (λa b _=>(ND a step s).trans (ND b step s).symm) f.n
theorem NW [f:Fu] (step:S→Option (tj S R)) (s:S):Loop.run step s=Loop.runC step s:=by obtain⟨n⟩:=f;induction n using Quot.ind;exact ND _ step s
theorem No [Fu] {S R:Type} {step:S→Option (tj S R)} {k:Nat} {s:S} {r:R} (h:Loop.iter step k s=some r):Loop.run step s=some r:=by rw[NW];exact Nz h
theorem Np [Fu] {S R:Type} {step:S→Option (tj S R)} {s:S} {r:R} (h:Loop.run step s=some r):∃k,Loop.iter step k s=some r:=by rw[NW] at h;unfold Loop.runC at h;split at h;rename_i hx;obtain⟨m,hm⟩:=hx.choose_spec;rw[Option.some.inj h] at hm;exact⟨m,hm⟩;cases h
variable [Fu]
theorem Mp {S R:Type} {step:S→Option (tj S R)} {s:S} {r:R} (h:step s=some (.done r)):Loop.run step s=some r:=No (k:=1) (by simp[Loop.iter,h])
theorem My {S R:Type} {step:S→Option (tj S R)} {s s':S} (h:step s=some (.next s')):Loop.run step s=Loop.run step s':=by cases e:Loop.run step s' with|some r=>obtain⟨k,hk⟩:=Np e;exact No (k:=k+1) (by simp[Loop.iter,h,hk])|none=>cases e':Loop.run step s with|none=>rfl|some r=>obtain⟨k,hk⟩:=Np e';cases k with|zero=>cases hk|succ k=>simp only[Loop.iter,h] at hk;rw[No hk] at e;cases e
theorem CT {P:Program} {S R:Type} {step:S→Option (tj S R)} {s0:S} {r:R} (hrun:Loop.run step s0=some r) (I:S→Act→World→Prop) {c:Code}
  {Q:Exit→Act→World→Prop} {a:Act} {w:World} (h0:I s0 a w)
  (round:∀s o a w,step s=some o→(∀q,o= .done q→q=r)→I s a w→c.wp P (Exit.then (λa' w'=>∃s',o= .next s'∧I s' a' w') Q) a w):(Code.loop c).wp P Q a w:=by
 obtain⟨k,hk⟩:=Np hrun
 intro b kk cs
 have key:∀k s a w,Loop.iter step k s=some r→I s a w→
   ∃e a' w',Q e a' w'∧Arrives P (lone (b.at a (.code c:: .inLoop c::kk)) cs w) b kk cs e a' w':=by
  intro k
  induction k with
  |zero=>intro s a w h _;cases h
  |succ k ih=>
   intro s a w h hI
   rw[Loop.iter] at h
   have hr:∃o,step s=some o∧(∀q,o= .done q→q=r)∧(∀s',o= .next s'→Loop.iter step k s'=some r):=by
    split at h
    · cases h
    · rename_i q hq;exact⟨_,hq,λq' e=>by cases e;exact Option.some.inj h,λs' e=>by cases e⟩
    · rename_i s' hq;exact⟨_,hq,λq' e=>(by cases e),λs'' e=>by cases e;exact h⟩
   obtain⟨o,ho,hd,hn⟩:=hr
   obtain⟨e,a₁,w₁,hq,harr⟩:=round s o a w ho hd hI b (.inLoop c::kk) cs
   cases e with
   |normal=>
    obtain⟨s',he,hI₁⟩:=hq
    obtain⟨e₂,a₂,w₂,hq₂,harr₂⟩:=ih s' a₁ w₁ (hn s' he) hI₁
    exact⟨e₂,a₂,w₂,hq₂,.of_steps (Steps.trans harr (.one step_inLoop)) harr₂⟩
   |exit id=>exact⟨_,a₁,w₁,hq,.pass (x:= .inLoop c) rfl (λ_ _=> .inl (by simp)) harr⟩
   |goto l=>exact⟨_,a₁,w₁,hq,.pass (x:= .inLoop c) rfl (λ_ _=> .inl (by simp)) harr⟩
   |ret=>exact⟨_,a₁,w₁,hq,.pass (x:= .inLoop c) rfl (λ_ _=> .inl (by simp)) harr⟩
   |panic ch=>exact⟨_,a₁,w₁,hq,.pass (x:= .inLoop c) rfl (λ_ _=> .inl (by simp)) harr⟩
   |outgrown=>exact⟨_,a₁,w₁,hq,.pass (x:= .inLoop c) rfl (λ_ _=> .inl (by simp)) harr⟩
 obtain⟨e,a',w',hq,harr⟩:=key k s0 a w hk h0
 exact⟨e,a',w',hq,.of_steps (.one step_loop) harr⟩
end Go.Sim
namespace Go.Sim
open Go
structure Kd (α:Type) where
 n:Nat
 agg:Bool
 rd:Fz→List Value→α→Prop
 len:∀{F cs x},rd F cs x→cs.length=n
 mono:∀{F G cs x},F≤G→rd F cs x→rd G cs x
 one:∀{F cs x},rd F cs x→∀v∈cs,v.oneCell'=true
 sole:agg=false→n=1
def zG (agg:Bool) (cs:List Value):Value:=if agg then .agg cs.toArray else cs.headD undef
def Kd.val {α:Type} (K:Kd α) (F:Fz) (v:Value) (x:α):Prop:=∃cs,K.rd F cs x∧v=zG K.agg cs
theorem Kd.val.mono {K:Kd α} (h:K.val F v x) (hg:F≤G):K.val G v x:=let ⟨cs,a,b⟩:=h;⟨cs,K.mono hg a,b⟩
theorem yP {K:Kd α} {cs:List Value} (h:K.rd F cs x):(zG K.agg cs).cells=cs.toArray:=by unfold zG;cases ha:K.agg with|true=>simp[Value.cells]|false=>have hl:=K.len h;rw[K.sole ha] at hl;match cs,hl with|[c],_=>have:=K.one h c (by simp);simp only[List.headD_cons,Kf,LB];cases c<;>first|rfl|simp[Value.oneCell'] at this
theorem Kd.val.rd {K:Kd α} {v:Value} (h:K.val F v x):K.rd F v.cells.toList x:=by obtain⟨cs,a,rfl⟩:=h;rw[yP a];simpa using a
theorem Kd.val.eq_pack {K:Kd α} {v:Value} (h:K.val F v x):v=zG K.agg v.cells.toList:=by obtain⟨cs,a,rfl⟩:=h;rw[yP a]
theorem Kd.val.sizeEq {K:Kd α} {v:Value} (h:K.val F v x):v.cells.size=K.n:=by have:=K.len h.rd;simpa using this
def bD (k:IntKind):Kd Int where
 n:=1
 agg:=false
 rd:=λ_ cs x=>cs=[.int k x]
 len:=λh=>by subst h;rfl
 mono:=λ_ h=>h
 one:=λh v hv=>by subst h;simp at hv;subst hv;rfl
 sole:=λ_=>rfl
def oi:Kd Bool where
 n:=1
 agg:=false
 rd:=λ_ cs x=>cs=[.bool x]
 len:=λh=>by subst h;rfl
 mono:=λ_ h=>h
 one:=λh v hv=>by subst h;simp at hv;subst hv;rfl
 sole:=λ_=>rfl
def xJ:Kd (List Int) where
 n:=1
 agg:=false
 rd:=λ_ cs x=>∃s:ByteArray,cs=[.string s]∧x=s.data.toList.map (λb=>(b.toNat:Int))
 len:=λ⟨_,h,_⟩=>by subst h;rfl
 mono:=λ_ h=>h
 one:=λ⟨_,h,_⟩ v hv=>by subst h;simp at hv;subst hv;rfl
 sole:=λ_=>rfl
theorem ra:(bD k).val F v x↔v= .int k x:=⟨λ⟨cs,h,e⟩=>by cases h;exact e,λh=>⟨[.int k x],rfl,h⟩⟩
theorem yQ:oi.val F v x↔v= .bool x:=⟨λ⟨cs,h,e⟩=>by cases h;exact e,λh=>⟨[.bool x],rfl,h⟩⟩
def cj {α:Type} (K:Kd α) (F:Fz):List Value→List α→Prop|cs,[]=>cs=[]|cs,x::xs=>∃c d,cs=c++d∧K.rd F c x∧cj K F d xs
section
variable {α:Type} {K:Kd α} {F G:Fz}
theorem cj.len:∀{xs:List α} {cs:List Value},cj K F cs xs→cs.length=xs.length*K.n|[],cs,h=>by cases h;simp|x::xs,cs,⟨c,d,e,h,r⟩=>by subst e;rw[Iu,K.len h,cj.len r,IN,Jk];omega
theorem cj.mono (hg:F≤G):∀{xs:List α} {cs:List Value},cj K F cs xs→cj K G cs xs|[],cs,h=>h|x::xs,cs,⟨c,d,e,h,r⟩=>⟨c,d,e,K.mono hg h,cj.mono hg r⟩
theorem cj.one:∀{xs:List α} {cs:List Value},cj K F cs xs→∀v∈cs,v.oneCell'=true|[],cs,h,v,hv=>by cases h;cases hv|x::xs,cs,⟨c,d,e,h,r⟩,v,hv=>by subst e;rcases IK.1 hv with hv|hv;exact K.one h v hv;exact cj.one r v hv
theorem cj.append:∀{xs:List α} {cs ds:List Value} {ys:List α},cj K F cs xs→cj K F ds ys→cj K F (cs++ds) (xs++ys)|[],cs,ds,ys,h,k=>by cases h;simpa using k|x::xs,cs,ds,ys,⟨c,d,e,h,r⟩,k=>⟨c,d++ds,by subst e;simp,h,cj.append r k⟩
theorem cj.split:∀{xs:List α} {cs:List Value} {ys:List α},cj K F cs (xs++ys)→cj K F (cs.take (xs.length*K.n)) xs∧cj K F (cs.drop (xs.length*K.n)) ys|[],cs,ys,h=>by simp;exact⟨rfl,h⟩|x::xs,cs,ys,⟨c,d,e,h,r⟩=>by subst e;have hl:=K.len h;obtain⟨r1,r2⟩:=cj.split r;(have e1:(x::xs).length*K.n=c.length+xs.length*K.n:=by rw[IN,Jk,hl];omega);rw[e1,Lk,Lj];exact⟨⟨c,_,rfl,h,r1⟩,r2⟩
theorem Pd (h:K.rd F cs x):cj K F cs [x]:=⟨cs,[],by simp,h,rfl⟩
theorem cj.get {xs:List α} {cs:List Value} (h:cj K F cs xs) (hx:xs[i]? =some x):K.rd F ((cs.drop (i*K.n)).take K.n) x:=by obtain⟨hi,rfl⟩:=It.1 hx;(have e:xs=xs.take i++(xs[i]::xs.drop (i+1)):=by simp);rw[e] at h;(have hl:(xs.take i).length=i:=by simp;omega);have h2:=h.split.2;rw[hl] at h2;obtain⟨c,d,e',h',_⟩:=h2;have a:=K.len h';rw[e'];rw[←a,J3];exact h'
theorem cj.set {xs:List α} {cs:List Value} (h:cj K F cs xs) (hi:i<xs.length) (hy:K.rd F c y):cj K F (cs.take (i*K.n)++c++cs.drop (i*K.n+K.n)) (xs.set i y):=by(have e:xs=xs.take i++([xs[i]]++xs.drop (i+1)):=by simp);(have e2:xs.set i y=xs.take i++([y]++xs.drop (i+1)):=by rw[J6,Jm hi];rfl);rw[e2];rw[e] at h;(have hl:(xs.take i).length=i:=by simp;omega);obtain⟨h1,h2⟩:=h.split;rw[hl] at h1 h2;have h3:=h2.split.2;simp only[IN,I7,IX,Nat.one_mul,Js] at h3;rw[IR];exact h1.append ((Pd hy).append h3)
theorem cj.take {xs:List α} {cs:List Value} (h:cj K F cs xs) (m:Nat):cj K F (cs.take (m*K.n)) (xs.take m):=by by_cases hm:m≤xs.length;(have e:xs=xs.take m++xs.drop m:=by simp);rw[e] at h;have h1:=h.split.1;rwa [IM,Jq hm] at h1;have h1:xs.take m=xs:=ID (by omega);have h2:cs.take (m*K.n)=cs:=ID (by rw[h.len];exact Iz _ (by omega));rw[h1,h2];exact h
theorem cj.drop {xs:List α} {cs:List Value} (h:cj K F cs xs) (m:Nat):cj K F (cs.drop (m*K.n)) (xs.drop m):=by by_cases hm:m≤xs.length;(have e:xs=xs.take m++xs.drop m:=by simp);rw[e] at h;have h1:=h.split.2;rwa [IM,Jq hm] at h1;have h1:xs.drop m=[]:=List.drop_of_length_le (by omega);have h2:cs.drop (m*K.n)=[]:=List.drop_of_length_le (by rw[h.len];exact Iz _ (by omega));rw[h1,h2];rfl
end
def bR {α:Type} (m:Nat) (K:Kd α):Kd (List α) where
 n:=m*K.n
 agg:=true
 rd:=λF cs xs=>xs.length=m∧cj K F cs xs
 len:=λ⟨e,h⟩=>by rw[h.len,e]
 mono:=λhg ⟨e,h⟩=>⟨e,h.mono hg⟩
 one:=λ⟨_,h⟩=>h.one
 sole:=λh=>by cases h
structure PU {α:Type} (F:Fz) (p:Addr) (K:Kd α) (x:α):Prop where
 out:∃c e fr,p.spot=none∧F.blk p.block=some (.cells c e fr)∧p.off+K.n≤c.size∧K.rd F ((c.toList.drop p.off).take K.n) x
theorem PU.mono {K:Kd α} (h:PU F p K x) (hg:F≤G):PU G p K x:=by obtain⟨c,e,fr,a,b,d,f⟩:=h.out;exact⟨c,e,fr,a,hg.blk _ _ b,d,K.mono hg f⟩
def cc {α:Type} (K:Kd α):Kd (List α) where
 n:=1
 agg:=false
 rd:=λF cs xs=>∃a cap,cs=[.slice a xs.length cap]∧xs.length≤cap∧(xs.length=0∨∃p c e fr,a=some p∧p.spot=none∧F.blk p.block=some (.cells c e fr)∧p.off+xs.length*K.n≤c.size∧
  cj K F ((c.toList.drop p.off).take (xs.length*K.n)) xs)
 len:=λ⟨_,_,h,_⟩=>by subst h;rfl
 mono:=λhg ⟨a,cap,h,hc,r⟩=>⟨a,cap,h,hc,r.imp id λ⟨p,c,e,fr,a1,a2,a3,a4,a5⟩=>⟨p,c,e,fr,a1,a2,hg.blk _ _ a3,a4,a5.mono hg⟩⟩
 one:=λ⟨_,_,h,_⟩ v hv=>by subst h;simp at hv;subst hv;rfl
 sole:=λ_=>rfl
def B_ {α β:Type} (K:Kd α) (V:Kd β) (F:Fz):List MapEntry→List (α×β)→Prop|[],[]=>True|e::es,p::ps=>K.val F e.key p.1∧V.val F e.val p.2∧B_ K V F es ps|_,_=>False
theorem B_.mono (hg:F≤G):∀{es:List MapEntry} {ps:List (α×β)},B_ K V F es ps→B_ K V G es ps|[],[],h=>h|e::es,p::ps,⟨a,b,c⟩=>⟨a.mono hg,b.mono hg,B_.mono hg c⟩|[],_::_,h=>h.elim|_::_,[],h=>h.elim
theorem B_.len:∀{es:List MapEntry} {ps:List (α×β)},B_ K V F es ps→es.length=ps.length|[],[],h=>rfl|e::es,p::ps,⟨a,b,c⟩=>by simp[B_.len c]|[],_::_,h=>h.elim|_::_,[],h=>h.elim
def wB (es:Array MapEntry) (a:Nat):Prop:=(∀e∈es.toList,e.born<a)∧(es.toList.map (·.born)).Nodup
def Se {α β:Type} (K:Kd α) (V:Kd β):Kd (List (α×β)) where
 n:=1
 agg:=false
 rd:=λF cs ps=>(cs=[.map none]∧ps=[])∨∃b es c,cs=[.map (some b)]∧F.blk b=some (.map es c)∧B_ K V F es.toList ps∧wB es c
 len:=λh=>by rcases h with⟨h,_⟩|⟨_,_,_,h,_⟩<;>subst h<;>rfl
 mono:=λhg h=>h.imp id λ⟨b,es,c,h,a,r⟩=>⟨b,es,c,h,hg.blk _ _ a,r.1.mono hg,r.2⟩
 one:=λh v hv=>by rcases h with⟨h,_⟩|⟨_,_,_,h,_⟩<;>subst h<;>simp at hv<;>subst hv<;>rfl
 sole:=λ_=>rfl
structure kJ (β:Type) where
 {α:Type}
 K:Kd α
 get:β→α
def nF {β:Type}:List (kJ β)→Nat|[]=>0|f::fs=>f.K.n+nF fs
def dH {β:Type}:List (kJ β)→Nat→Nat|[],_=>0|_,0=>0|f::fs,i+1=>f.K.n+dH fs i
def xH {β:Type} (F:Fz):List (kJ β)→List Value→β→Prop|[],cs,_=>cs=[]|f::fs,cs,x=>∃c d,cs=c++d∧f.K.rd F c (f.get x)∧xH F fs d x
def pH {β:Type} (fs:List (kJ β)):Kd β where
 n:=nF fs
 agg:=true
 rd:=λF cs x=>xH F fs cs x
 len:=by
  intro F cs x h
  induction fs generalizing cs with
  |nil=>cases h;rfl
  |cons f fs ih=>obtain⟨c,d,e,h,r⟩:=h;subst e;rw[Iu,f.K.len h,ih r];rfl
 mono:=by
  intro F G cs x hg h
  induction fs generalizing cs with
  |nil=>exact h
  |cons f fs ih=>obtain⟨c,d,e,h,r⟩:=h;exact⟨c,d,e,f.K.mono hg h,ih r⟩
 one:=by
  intro F cs x h
  induction fs generalizing cs with
  |nil=>cases h;simp
  |cons f fs ih=>
   obtain⟨c,d,e,h,r⟩:=h;subst e
   intro v hv;rcases IK.1 hv with hv|hv
   · exact f.K.one h v hv
   · exact ih r v hv
 sole:=λh=>by cases h
theorem xH.get:∀{fs:List (kJ β)} {cs:List Value} {x:β} {i:Nat} {f:kJ β},xH F fs cs x→fs[i]? =some f→dH fs i+f.K.n≤cs.length∧f.K.rd F ((cs.drop (dH fs i)).take f.K.n) (f.get x)|[],_,_,_,_,_,h=>by cases h|g::fs,cs,x,0,f,⟨c,d,e,h,r⟩,hf=>by cases hf;subst e;have:=g.K.len h;simp only[dH,JX,Iu];rw[←this,J3];exact⟨by omega,h⟩|g::fs,cs,x,i+1,f,⟨c,d,e,h,r⟩,hf=>by subst e;have hl:=g.K.len h;have ih:=xH.get r (i:=i) (f:=f) (by simpa using hf);simp only[dH,Iu];rw[←hl,Lj];exact⟨by omega,ih.2⟩
theorem fU {l:List Value} (h:a+m≤n):(((l.drop b).take n).drop a).take m=(l.drop (b+a)).take m:=by rw[KO,Js,KE,Jq (by omega)]
theorem PU.fld {β:Type} {F:Fz} {p:Addr} {fs:List (kJ β)} {x:β} (h:PU F p (pH fs) x) {i:Nat} {f:kJ β} (hf:fs[i]? =some f):PU F ⟨p.block,p.off+dH fs i,none⟩ f.K (f.get x):=by obtain⟨c,e,fr,a,b,d,r⟩:=h.out;obtain⟨h1,h2⟩:=xH.get r hf;(have hn:(pH fs).n=((c.toList.drop p.off).take (pH fs).n).length:=by simp;omega);refine⟨c,e,fr,rfl,b,?_,?_⟩;have:=d;rw[hn] at this;simp only at*;omega;rw[←hn] at h1;rw[fU h1] at h2;exact h2
theorem cc.at_ {K:Kd α} {xs:List α} (h:(cc K).val F v xs):∃a cap,v= .slice a xs.length cap∧∀i x,xs[i]? =some x→∃p,a=some p∧p.spot=none∧PU F ⟨p.block,p.off+i*K.n,none⟩ K x:=by obtain⟨cs,⟨a,cap,rfl,hc,r⟩,rfl⟩:=h;refine⟨a,cap,rfl,λi x hx=>?_⟩;obtain⟨hi,_⟩:=It.1 hx;rcases r with r|⟨p,c,e,fr,rfl,hp,hb,hle,ha⟩;omega;refine⟨p,rfl,hp,⟨c,e,fr,rfl,hb,?_,?_⟩⟩;have:(i+1)*K.n≤xs.length*K.n:=Iz _ hi;rw[Jk] at this;simp only;omega;have:=ha.get hx;rwa [fU (by have:(i+1)*K.n≤xs.length*K.n:=Iz _ hi;rw[Jk] at this;omega)] at this
theorem PU.arr {K:Kd α} {p:Addr} {xs:List α} (h:PU F p (bR m K) xs) (hx:xs[i]? =some x):PU F ⟨p.block,p.off+i*K.n,none⟩ K x:=by obtain⟨c,e,fr,a,b,d,r⟩:=h.out;obtain⟨hi,_⟩:=It.1 hx;have hm:xs.length=m:=r.1;have h1:(i+1)*K.n≤m*K.n:=Iz _ (by omega);rw[Jk] at h1;have d':p.off+m*K.n≤c.size:=d;refine⟨c,e,fr,rfl,b,?_,?_⟩;simp only;omega;have:=r.2.get hx;rwa [show(bR m K).n=m*K.n from rfl,fU (by omega)] at this
end Go.Sim
namespace Go.Sim
open Go
theorem gp {w:World} (h:w.heap[b]? =some o):b<w.heap.size:=(Kb.1 h).1
inductive SV:Type 1 where
 |raw (v:Value)
 |val {α:Type} (K:Kd α) (x:α)
 |ptr {α:Type} (K:Kd α) (x:α)
 |tup (l:List SV)
 |fn (f:FuncId) (l:List SV)
 mutual
def SV.ok (F:Fz) (v:Value):SV→Prop| .raw u=>v=u| .val K x=>K.val F v x| .ptr K x=>∃p,v= .pointer (some p)∧PU F p K x| .tup l=>∃vs,v= .tuple vs.toArray∧SV.oks F vs l| .fn f l=>∃vs:List Value,v= .func (.func f) #[] vs.toArray∧SV.oks F vs l
def SV.oks (F:Fz):List Value→List SV→Prop|[],[]=>True|v::vs,s::l=>SV.ok F v s∧SV.oks F vs l|_,_=>False
end
 mutual
theorem Nf (hg:F≤G):∀{s:SV} {v:Value},SV.ok F v s→SV.ok G v s| .raw u,v,h=>by simp only[SV.ok] at*;exact h| .val K x,v,h=>by simp only[SV.ok] at*;exact h.mono hg| .ptr K x,v,h=>by simp only[SV.ok] at*;exact h.imp λp ⟨a,b⟩=>⟨a,b.mono hg⟩| .tup l,v,h=>by simp only[SV.ok] at*;exact h.imp λvs ⟨a,b⟩=>⟨a,Ns hg b⟩| .fn f l,v,h=>by simp only[SV.ok] at*;exact h.imp λvs ⟨a,b⟩=>⟨a,Ns hg b⟩
theorem Ns (hg:F≤G):∀{l:List SV} {vs:List Value},SV.oks F vs l→SV.oks G vs l|[],[],_=>by simp only[SV.oks]|s::l,v::vs,h=>by simp only[SV.oks] at*;exact⟨Nf hg h.1,Ns hg h.2⟩|[],_::_,h=>by simp only[SV.oks] at h|_::_,[],h=>by simp only[SV.oks] at h
end
inductive bM:Type 1 where
 |box {α:Type} (K:Kd α) (b:Nat) (T:TypeId) (x:α)
 |own {α:Type} (K:Kd α) (v:Value) (e:TypeId) (xs:List α)
 |mp {α β:Type} (K:Kd α) (V:Kd β) (b:Nat) (ps:List (α×β))
 |itr {α β:Type} (K:Kd α) (V:Kd β) (b:Nat) (left:List (α×β)) (cur:Option (α×β))
 |any (r:dv→Prop)
def Zl {α β:Type} (K:Kd α) (V:Kd β) (F:Fz) (r:Nat) (left:List (α×β)) (d:Option (α×β)) (h:dv):Prop:=(left=[]∧d=none∧h=dv.one r (.mapIter none 0 #[] 0))∨∃b es a seen,F.blk b=some (.map es a)∧wB es a∧B_ K V F (es.toList.filter λe=> !seen.contains e.born) left∧h=dv.one r (.mapIter (some b) a seen a)∧∀p,d=some p→∃(e:MapEntry) (c:Array Nat),seen=c.push e.born∧e∈es.toList∧K.val F e.key p.1∧V.val F e.val p.2
def bM.holds (F:Fz) (h:dv):bM→Prop| .box K b T x=>∃cs,K.rd F cs x∧h=dv.one b (.cells cs.toArray T (0,0))| .own K v e xs=>(v= .slice none 0 0∧xs=[]∧h=dv.emp)∨∃g cap a,v= .slice (some ⟨g,0,none⟩) xs.length cap∧h=dv.one g (.cells a e (0,0))∧xs.length≤cap∧cap≤maxLen∧a.size=cap*K.n∧cj K F (a.toList.take (xs.length*K.n)) xs| .mp K V b ps=>∃es c,(B_ K V F es.toList ps∧wB es c)∧h=dv.one b (.map es c)| .itr K V b left a=>Zl K V F b left a h| .any r=>r h
theorem bM.mono (hg:F≤G):∀{r:bM},r.holds F h→r.holds G h| .box K b T x,⟨cs,a,e⟩=>⟨cs,K.mono hg a,e⟩| .own K v e xs,.inl a=> .inl a| .own K v e xs,.inr ⟨g,cap,d,a1,a2,a3,a4,a5,a6⟩=> .inr ⟨g,cap,d,a1,a2,a3,a4,a5,a6.mono hg⟩| .mp K V b ps,⟨es,clock,a,e⟩=>⟨es,clock,⟨a.1.mono hg,a.2⟩,e⟩| .itr K V b left d,.inl a=> .inl a| .itr K V b left d,.inr ⟨m,es,clock,seen,a,s,rd,e,c⟩=> .inr ⟨m,es,clock,seen,hg.blk _ _ a,s,rd.mono hg,e,λp hp=>let ⟨x,y,a,b,k,v⟩:=c p hp;⟨x,y,a,b,k.mono hg,v.mono hg⟩⟩| .any r,a=>a
def q8 (G:Fz):Fz→World→List bM→Prop|F,w,[]=>F.on w|F,w,r::L=>∃h:dv,r.holds G h∧yE F h∧q8 G (F.add h) w L
def St (F:Fz) (w:World) (L:List bM):Prop:=q8 F F w L
theorem q8.on {F:Fz} (h:q8 G F w L):F.on w:=by induction L generalizing F with|nil=>exact h|cons r L ih=>obtain⟨f,_,_,h'⟩:=h;have:=ih h';exact⟨λb o e=>this.blk b o ((F.le_add f).blk b o e),this.os,this.tape,this.output⟩
theorem St.on {F:Fz} (h:St F w L):F.on w:=q8.on h
theorem q8.mono (hg:G≤G') (h:q8 G F w L):q8 G' F w L:=by induction L generalizing F with|nil=>exact h|cons r L ih=>obtain⟨f,a,b,c⟩:=h;exact⟨f,bM.mono hg a,b,ih c⟩
theorem q8.drew {w:World} (h:q8 G F w L):q8 G F {w with drawn:=w.drawn+1} L:=by induction L generalizing F with|nil=>exact⟨h.blk,h.os,h.tape,h.output⟩|cons r L ih=>obtain⟨f,a,b,h'⟩:=h;exact⟨f,a,b,ih h'⟩
structure SR (w w':World) (h:dv):Prop where
 os:w'.os=w.os
 tape:w'.tape=w.tape
 output:w'.output=w.output
 blk:∀b,b<w.heap.size→h b=none→w'.heap[b]? =w.heap[b]?
theorem q8.change {F:Fz} {w w':World} (hs:q8 G (F.add h) w L) (ha:yE F h) (hc:SR w w' h) (i:∀b,h' b≠none→h b≠none∨w.heap.size≤b) (j:∀b o,h' b=some o→w'.heap[b]? =some o):q8 G (F.add h') w' L:=by induction L generalizing F with|nil=>have a:(F.add h).on w:=hs;refine⟨λb o e=>?_,hc.os.trans a.os,hc.tape.trans a.tape,hc.output.trans a.output⟩;rcases ON e with e|⟨_,e⟩;have hb:=a.blk b o ((F.le_add h).blk b o e);(have hn:h b=none:=by cases hh:h b with|none=>rfl|some q=>have:=ha b (by simp[hh]);rw[e] at this;cases this);exact(hc.blk b (gp hb) hn).trans hb;exact j b o e|cons r L ih=>obtain⟨k,hr,hk,a⟩:=hs;have g:=a.on;have c:∀b,k b≠none→F.blk b=none∧h b=none:=λb hb=>Nb.1 (hk b hb);(have lt:∀b,k b≠none→b<w.heap.size:=λb hb=>by cases d:k b with|none=>exact absurd d hb|some o=>(have:((F.add h).add k).blk b=some o:=by have:=(c b hb);simp[Fz.add,this.1,this.2,d]);exact gp (g.blk b o this));(have f:∀b,k b≠none→h' b=none:=λb hb=>by cases hh:h' b with|none=>rfl|some q=>rcases i b (by simp[hh]) with x|x;exact absurd (c b hb).2 x;exact absurd (lt b hb) (by omega));refine⟨k,hr,λb hb=>Nb.2 ⟨(c b hb).1,f b hb⟩,?_⟩;rw[mW f];rw[mW (λb hb=>(c b hb).2)] at a;refine ih a (λb hb=>?_);cases d:k b with|none=>exact Nb.2 ⟨ha b hb,d⟩|some q=>exact absurd (c b (by simp[d])).2 hb
theorem q8.fresh {F:Fz} {w:World} (h:q8 G F w L) (b:Nat) (hb:w.heap.size≤b):F.blk b=none:=by cases e:F.blk b with|none=>rfl|some o=>have:=gp (h.on.blk b o e);omega
theorem OO {F:Fz} {w w':World} (hs:q8 G F w L) (h':dv) (hc:SR w w' dv.emp) (hn:∀b,h' b≠none→w.heap.size≤b) (a:∀b o,h' b=some o→w'.heap[b]? =some o):yE F h'∧q8 G (F.add h') w' L:=by refine⟨λb hb=>hs.fresh b (hn b hb),?_⟩;(have c:q8 G (F.add dv.emp) w L:=by rw[Nm];exact hs);exact c.change (λb hb=>absurd rfl hb) hc (λb hb=> .inr (hn b hb)) a
theorem NQ {w w':World} (hs:St F w L) (h':dv) {r:bM} (hr:r.holds F h') (hc:SR w w' dv.emp) (hn:∀b,h' b≠none→w.heap.size≤b) (c:∀b o,h' b=some o→w'.heap[b]? =some o):St F w' (r::L):=let ⟨a,b⟩:=OO hs h' hc hn c;⟨h',hr,a,b⟩
theorem OP {F:Fz} {w w':World} (hs:St F w L) (h':dv) (hc:SR w w' dv.emp) (hn:∀b,h' b≠none→w.heap.size≤b) (c:∀b o,h' b=some o→w'.heap[b]? =some o):F≤F.add h'∧St (F.add h') w' L:=let ⟨a,b⟩:=OO hs h' hc hn c;⟨F.le_add h',b.mono (F.le_add h')⟩
theorem St.turn {F:Fz} {w w':World} {r r':bM} (hs:St F w (r::L)) (step:∀h,r.holds F h→(∀b o,h b=some o→w.heap[b]? =some o)→∃h',r'.holds F h'∧SR w w' h∧(∀b,h' b≠none→h b≠none∨w.heap.size≤b)∧(∀b o,h' b=some o→w'.heap[b]? =some o)):St F w' (r'::L):=by obtain⟨h,hr,ha,a⟩:=hs;have c:∀b o,h b=some o→w.heap[b]? =some o:=λb o e=>a.on.blk b o (by have:=ha b (by simp[e]);simp[Fz.add,this,e]);obtain⟨h',hr',hc,hd,ho⟩:=step h hr c;refine⟨h',hr',λb hb=>?_,a.change ha hc hd ho⟩;rcases hd b hb with x|x;exact ha b x;cases e:F.blk b with|none=>rfl|some o=>have:=gp (a.on.blk b o ((F.le_add h).blk b o e));omega
theorem St.head {w:World} {r:bM} (hs:St F w (r::L)):∃h,r.holds F h∧(∀b o,h b=some o→w.heap[b]? =some o):=by obtain⟨h,hr,ha,hs'⟩:=hs;exact⟨h,hr,λb o e=>hs'.on.blk b o (by have:=ha b (by simp[e]);simp[Fz.add,this,e])⟩
theorem q8.swap {F:Fz} (hs:q8 G F w (r::q::L)):q8 G F w (q::r::L):=by obtain⟨h,hr,ha,k,hq,hk,c⟩:=hs;have a:∀b,k b≠none→F.blk b=none∧h b=none:=λb hb=>Nb.1 (hk b hb);refine⟨k,hq,λb hb=>(a b hb).1,h,hr,λb hb=>Nb.2 ⟨ha b hb,?_⟩,?_⟩;(cases e:k b with|none=>rfl|some o=>exact absurd (a b (by simp[e])).2 hb);rw[mW (λb hb=>?_)];exact c;cases e:k b with|none=>rfl|some o=>exact absurd (a b (by simp[e])).2 hb
theorem q8.perm {L:List bM} (p:L.Perm L'):∀F,q8 G F w L→q8 G F w L':=by
 induction p with
 |nil=>exact λ_ h=>h
 |cons x _ ih=>exact λ_ ⟨f,a,b,c⟩=>⟨f,a,b,ih _ c⟩
 |swap x y l=>exact λ_ h=>h.swap
 |trans _ _ d e=>exact λF h=>e F (d F h)
theorem St.perm {L:List bM} (hs:St F w L) (p:L.Perm L'):St F w L':=q8.perm p F hs
theorem St.drop {F:Fz} (hs:St F w (r::L)):St F w L:=by obtain⟨h,hr,ha,hs'⟩:=hs;have:q8 F (F.add dv.emp) w L:=hs'.change ha ⟨rfl,rfl,rfl,λ_ _ _=>rfl⟩ (λb hb=>absurd rfl hb) (λb o e=>by cases e);rwa [Nm] at this
theorem St.freeze {F:Fz} {r:bM} (hs:St F w (r::L)):∃h,r.holds (F.add h) h∧yE F h∧F≤F.add h∧St (F.add h) w L:=by obtain⟨h,hr,ha,hs'⟩:=hs;exact⟨h,bM.mono (F.le_add h) hr,ha,F.le_add h,q8.mono (F.le_add h) hs'⟩
def bM.fix (F:Fz) (r:bM):bM:= .any λh=>r.holds F h
theorem q8.fix (G G':Fz):∀{L:List bM} {F:Fz},q8 G F w L↔q8 G' F w (L.map (bM.fix G))|[],F=>Iff.rfl|r::L,F=>by simp only[IU,q8];exact⟨λ⟨h,a,b,c⟩=>⟨h,a,b,(q8.fix G G').1 c⟩,λ⟨h,a,b,c⟩=>⟨h,a,b,(q8.fix G G').2 c⟩⟩
def look:List (Nat×SV)→Nat→Option SV|[],_=>none|(k,v)::E,t=>cond (Nat.beq k t) (some v) (look E t)
theorem de (k:Nat) (v:SV) (E:List (Nat×SV)) (t:Nat):look ((k,v)::E) t=if k=t then some v else look E t:=by simp only[look];by_cases h:k=t;simp[h];(have:Nat.beq k t=false:=by cases hb:Nat.beq k t with|false=>rfl|true=>exact absurd (Jz hb) h);simp[this,h]
structure Env (F:Fz) (a:Act) (n:Nat) (E:List (Nat×SV)):Prop where
 defers:a.defers=[]
 size:a.tmps.size=n
 at_:∀t s,look E t=some s→∃v,a.tmps[t]? =some v∧s.ok F v
theorem Env.mono (h:Env F a n E) (hg:F≤G):Env G a n E:=⟨h.defers,h.size,λt s e=>let ⟨v,a,b⟩:=h.at_ t s e;⟨v,a,Nf hg b⟩⟩
def ev (E:List (Nat×SV)):Operand→Option SV| .tmp t=>look E t| .const v=>some (.raw v)| .global g=>(match CS g CR with|some (k,xs)=>some (.ptr (bR xs.length (bD k)) xs)|none=>some (.raw (.pointer (some ⟨g,0,none⟩))))| .func f=>some (.raw (.func (.func f) #[] #[]))
theorem Env.eval {F:Fz} {a:Act} (h:Env F a n E) {s:SV} (e:ev E x=some s):s.ok F (a.eval x):=by cases x with|tmp t=>obtain⟨v,h1,h2⟩:=h.at_ t s e;simpa[Act.eval,Li,h1] using h2|const u=>cases e;simp only[SV.ok];rfl|global g=>simp only[ev] at e;split at e;rename_i k xs hg;cases e;obtain⟨T,fr,hb⟩:=F.glob.on g k xs hg;simp only[SV.ok];refine⟨⟨g,0,none⟩,rfl,⟨⟨_,T,fr,rfl,hb,?_,?_⟩⟩⟩;simp[bR,bD];(have:∀ys:List Int,cj (bD k) F (ys.map (Value.int k ·)) ys:=λys=>by induction ys with|nil=>rfl|cons y ys ih=>exact⟨[.int k y],_,rfl,rfl,ih⟩);have h2:=this xs;(have e2:((xs.map (Value.int k ·)).toArray.toList.drop 0).take (bR xs.length (bD k)).n=xs.map (Value.int k ·):=by simp[bR,bD,ID]);exact⟨rfl,by rw[e2];exact h2⟩;cases e;simp only[SV.ok];rfl|func f=>cases e;simp only[SV.ok];rfl
theorem Env.raw {a:Act} (h:Env F a n E) (e:ev E x=some (.raw v)):a.eval x=v:=by have:=h.eval e;simpa only[SV.ok] using this
theorem Env.put {a:Act} (h:Env F a n E) (hd:Nat.blt d n=true) {s:SV} (hv:s.ok F v):Env F (a.put (some d) v) n ((d,s)::E):=by(have b:d<n:=by simpa[Kg] using hd);refine⟨h.defers,by simp[Act.put,h.size],λt u e=>?_⟩;rw[de] at e;simp only[Act.put];by_cases hk:d=t;subst hk;simp only[LH] at e;cases e;exact⟨v,by rw[I6 (by rw[h.size];exact b)],hv⟩;rw[Jf hk] at e;rw[Ju hk];exact h.at_ t u e
theorem Env.sub (h:Env F a n E) (hs:∀t v,look E' t=some v→look E t=some v):Env F a n E':=⟨h.defers,h.size,λt v e=>h.at_ t v (hs t v e)⟩
theorem lz (E:List (Nat×SV)):∀t v,look [] t=some v→look E t=some v:=λ_ _ h=>by cases h
theorem aP (h:look E k=some u) (r:∀t v,look E' t=some v→look E t=some v):∀t v,look ((k,u)::E') t=some v→look E t=some v:=λt v e=>by rw[de] at e;split at e;rename_i hk;subst hk;rw[h];exact e;exact r t v e
def Sl:Nat→List SV→List (Nat×SV)|_,[]=>[]|i,s::l=>(i,s)::Sl (i+1) l
theorem AB:∀{l:List SV} {vs:List Value} {i t:Nat} {s:SV},SV.oks F vs l→look (Sl i l) t=some s→i≤t∧∃v,vs[t - i]? =some v∧s.ok F v|[],_,_,_,_,_,h=>by cases h|s0::l,[],_,_,_,h,_=>by simp only[SV.oks] at h|s0::l,v::vs,i,t,s,h,e=>by simp only[SV.oks] at h;rw[Sl,de] at e;split at e;rename_i hk;subst hk;cases e;exact⟨IL _,v,by simp,h.1⟩;rename_i hk;obtain⟨h1,u,h2,h3⟩:=AB h.2 e;refine⟨by omega,u,?_,h3⟩;rw[show t - i=(t - (i+1))+1 by omega];simpa using h2
theorem pz:∀{l:List SV} {vs:List Value},SV.oks F vs l→vs.length=l.length|[],[],_=>rfl|s::l,v::vs,h=>by simp only[SV.oks] at h;simp[pz h.2]|[],_::_,h=>by simp only[SV.oks] at h|_::_,[],h=>by simp only[SV.oks] at h
theorem On {vs:List Value} {l:List SV} (h:SV.oks F vs l) (m:Nat):Env F {tmps:=vs.toArray++Array.replicate m undef,defers:=[]} (l.length+m) (Sl 0 l):=by have hl:=pz h;refine⟨rfl,by simp[hl],λt s e=>?_⟩;obtain⟨_,v,h2,h3⟩:=AB h e;refine⟨v,?_,h3⟩;(have a:t<vs.length:=by simpa using(It.1 h2).1);rw[Lo (by simpa using a)];simpa using h2
def bl (F0:Fz) (n:Nat) (E:List (Nat×SV)) (L:List bM) (X:Act→World→Prop):Prop:=∀F a w,F0≤F→Env F a n E→St F w L→X a w
def Cl (F:Fz) (L:List bM) (w:World):Prop:=∃G,F≤G∧St G w L
def gT (P:Program) (n:Nat) (E:List (Nat×SV)) (L:List bM) (o:Oper) (s:SV):Prop:=∀F a,Env F a n E→∃v,s.ok F v∧∀w,Cl F L w→o.quietAt P a (Cl F L) w v
def Ok (P:Program) (f:FuncId) (a:List SV) (L:List bM) (s:SV) (L':List bM):Prop:=∀F w vs,SV.oks F vs a→St F w L→Calls P f vs.toArray w λe w'=>∃G v,e= .returned v∧F≤G∧St G w' L'∧s.ok G v
theorem Ol {o:Oper} {a:Act} (h:∀a w,K a w→K' a w) (hq:∀e a w,Q e a w→Q' e a w)
  (hh:o.wp P a w K Q):o.wp P a w K' Q':=by
 unfold Oper.wp at*
 generalize (execOp a.eval o).run P w=r at*
 cases r with
 |ok n w'=>
  cases n<;>simp only[Oper.upon] at hh⊢
  case value v=>exact h _ _ hh
  case skip=>exact h _ _ hh
  case defer d=>exact h _ _ hh
  case row r args=>exact Rows.mono hh (λ_ _ he=>h _ _ he)
  case enter f args=>
   refine Calls.mono hh (λe w'' he=>?_)
   cases e with
   |returned v=>exact h _ _ he
   |panicked c=>exact hq _ _ _ he
   |outgrown=>obtain⟨a',w',x⟩:=he;exact⟨a',w',hq _ _ _ x⟩
  all_goals exact hh
 |halt x w'=>cases x<;>simp only[Oper.upon] at hh⊢<;>first|exact hq _ _ _ hh|exact hh
section
variable {P:Program} {ops:Array Oper} {Q:Exit→Act→World→Prop} {rest:List Oper} {F0:Fz} {n:Nat} {E:List (Nat×SV)} {L:List bM}
variable {d:Nat} {op:Op} {ty:TypeId} {pos:String} {aft:Array Edge} {s:SV}
theorem ME {o:Oper} (hg:o.guard=none) (h:∀F a w,F0≤F→Env F a n E→St F w L→o.wp P a w (wpList P c Q b) Q):bl F0 n E L (wpList P c Q (o::b)):=λF a w h0 hE hS=>wpList_plain hg λK hK=>Ol hK (λ_ _ _ q=>q) (h F a w h0 hE hS)
theorem MZ (h:gT P n E L ⟨some d,op,ty,pos,aft,none⟩ s) (hd:Nat.blt d n=true) (k:bl F0 n ((d,s)::E) L (wpList P ops Q rest)):
  bl F0 n E L (wpList P ops Q (⟨some d,op,ty,pos,aft,none⟩::rest)):=
 ME rfl λF a w h0 hE hS=>by
  obtain⟨v,hv,this⟩:=h F a hE
  have this:=this w ⟨F,NC F,hS⟩
  unfold Oper.quietAt at this
  unfold Oper.wp
  generalize (execOp a.eval (⟨some d,op,ty,pos,aft,none⟩:Oper)).run P w=r at this
  cases r with
  |halt x w'=>exact this.elim
  |ok nx w'=>
   cases nx<;>simp only[Oper.quietUpon] at this<;>simp only[Oper.upon]
   case value u=>obtain⟨rfl,rfl⟩:=this;exact k _ _ _ h0 (hE.put hd hv) hS
   case skip=>obtain⟨rfl,rfl⟩:=this;exact k _ _ _ h0 (hE.put hd hv) hS
   case enter f args=>
    obtain⟨rfl,hc⟩:=this
    exact hc.mono λe w'' ⟨he,G,hg,hw⟩=>by subst he;exact k _ _ _ (Nj h0 hg) ((hE.mono hg).put hd (Nf hg hv)) hw
theorem Pu (hj:((c[j]?).bind (·.dst))=some g) (hb:look E g=some (.raw (.bool b))) (k:bl F0 n E L (wpList P c Q (⟨o,op,ty,pos,aft,none⟩::rest))):bl F0 n E L (wpList P c Q (⟨o,op,ty,pos,aft,some (j,b)⟩::rest)):=λF a w h0 hE hS=>by have hk:=k F a w h0 hE hS;obtain⟨v,hv,he⟩:=hE.at_ g _ hb;simp only[SV.ok] at he;subst he;(have hy:yielded c a.tmps j=some b:=by simp[yielded,hj,hv]);unfold wpList at hk⊢;simp only[Region.wanted,LH,hy,KC] at hk⊢;exact hk
theorem bl.skip (hj:((ops[j]?).bind (·.dst))=some g) (hb:look E g=some (.raw (.bool (!b)))) (hu:Nat.blt u n=true) (k:bl F0 n ((u,.raw undef)::E) L (wpList P ops Q rest)):bl F0 n E L (wpList P ops Q (⟨some u,op,ty,pos,aft,some (j,b)⟩::rest)):=λF a w h0 hE hS=>by obtain⟨v,hv,he⟩:=hE.at_ g _ hb;simp only[SV.ok] at he;subst he;(have hy:yielded ops a.tmps j=some (!b):=by simp[yielded,hj,hv]);unfold wpList;rw[Jf (by simp[Region.wanted,hy])];exact k _ _ _ h0 (hE.put hu (by simp only[SV.ok])) hS
theorem bl.seq {x y:Code} (k:bl F0 n E L (x.wp P (Exit.then (y.wp P Q) Q))):bl F0 n E L ((Code.seq x y).wp P Q):=λF a w h0 hE hS=>wp_seq (k F a w h0 hE hS)
theorem bl.region {id:Nat} {l:List Oper} (k:bl F0 n E L (wpList P l.toArray Q l)):bl F0 n E L ((Code.region id l.toArray false).wp P Q):=λF a w h0 hE hS=>wp_region_lit (k F a w h0 hE hS)
theorem bl.nil (k:bl F0 n E L (Q .normal)):bl F0 n E L (wpList P a Q []):=k
theorem NI (k:bl F0 n E L (Q .normal)):bl F0 n E L (Code.skip.wp P Q):=λF a w h0 hE hS=>wp_skip (k F a w h0 hE hS)
theorem bl.exit {id:Nat} (k:bl F0 n E L (Q (.exit id))):bl F0 n E L ((Code.exit id).wp P Q):=λF a w h0 hE hS=>wp_exit (k F a w h0 hE hS)
theorem N7 (k:bl F0 n E L (Q .ret)):bl F0 n E L (Code.ret.wp P Q):=λF a w h0 hE hS=>wp_ret (k F a w h0 hE hS)
theorem bl.block {id:Nat} {c:Code} (k:bl F0 n E L (c.wp P (Exit.inBlock id Q))):bl F0 n E L ((Code.block id c).wp P Q):=λF a w h0 hE hS=>wp_block (k F a w h0 hE hS)
theorem Nc {x y:Code} (hX:ev E X=some (.raw (.bool c))) (kt:c=true→bl F0 n E L (x.wp P Q)) (kf:c=false→bl F0 n E L (y.wp P Q)):bl F0 n E L ((Code.cond X x y).wp P Q):=λF a w h0 hE hS=>wp_cond_split (hE.raw hX) (λh=>kt h F a w h0 hE hS) (λh=>kf h F a w h0 hE hS)
theorem Pe {x y:Code} (hF:(bif c then A else B)=some r) (hX:ev E X=some (.raw (.bool c))) (kt:A=some r→bl F0 n E L (x.wp P Q)) (kf:B=some r→bl F0 n E L (y.wp P Q)):bl F0 n E L ((Code.cond X x y).wp P Q):=Nc hX (λh=>kt (by rw[h] at hF;exact hF)) (λh=>kf (by rw[h] at hF;exact hF))
theorem NZ (hs:∀t v,look E' t=some v→look E t=some v) (k:bl F0 n E' L X):bl F0 n E L X:=λF a w h0 hE hS=>k F a w h0 (hE.sub hs) hS
theorem bl.perm (p:L.Perm L') (k:bl F0 n E L' X):bl F0 n E L X:=λF a w h0 hE hS=>k F a w h0 hE (hS.perm p)
theorem N1 (k:bl F0 n E L X):bl F0 n E (r::L) X:=λF a w h0 hE hS=>k F a w h0 hE hS.drop
theorem Ok.intro {fn:Func} {c:Code} {a:List SV} (m:Nat) (E0:List (Nat×SV)) (hf:P.funcs[f]? =some fn) (hb:fn.body=some c) (hn:fn.ntmps=m) (hl:Nat.ble a.length m=true) (hE:Sl 0 a=E0) (k:∀F0,bl F0 m E0 L (c.wp P (bodyPost P fn λe w'=>∃G v,e= .returned v∧F0≤G∧St G w' L'∧s.ok G v))):Ok P f a L s L':=λF w vs hv hS=>by refine calls_of_wp hf hb ?_;have d:=pz hv;have g:=JV hl;(have he:fn.ntmps - vs.toArray.size=m - a.length:=by simp[hn,d]);rw[he];(have h2:a.length+(m - a.length)=m:=by omega);have b:=On hv (m - a.length);rw[h2,hE] at b;exact k F F _ w (NC F) b hS
end
end Go.Sim
namespace Go.Sim
open Go
def il {α:Type} (s:SV) (K:Kd α) (x:α):Prop:=∀F v,s.ok F v→K.val F v x
theorem bC:il (.val K x) K x:=λF v h=>by simpa only[SV.ok] using h
theorem eB:il (.raw (.int k x)) (bD k) x:=λF v h=>by simp only[SV.ok] at h;subst h;exact ra.2 rfl
theorem Yc:il (.raw (.bool x)) oi x:=λF v h=>by simp only[SV.ok] at h;subst h;exact yQ.2 rfl
theorem gJ:il (.raw (.slice none 0 0)) (cc K) []:=λF v h=>by simp only[SV.ok] at h;subst h;exact⟨[.slice none 0 0],⟨none,0,rfl,IL _,.inl rfl⟩,rfl⟩
section
variable {P:Program} {ops:Array Oper} {Q:Exit→Act→World→Prop} {rest:List Oper} {F0:Fz} {n:Nat} {E:List (Nat×SV)} {L:List bM}
variable {d:Nat} {op:Op} {ty:TypeId} {pos:String} {aft:Array Edge} {s:SV}
theorem gT.pure (h:∀F a,Env F a n E→∃v,s.ok F v∧∀w,(execOp a.eval o).run P w= .ok (.value v) w):gT P n E L o s:=λF a hE=>by obtain⟨v,hv,hw⟩:=h F a hE;exact⟨v,hv,λw _=>by unfold Oper.quietAt;rw[hw w];exact⟨rfl,rfl⟩⟩
def MU:=@gT.pure
theorem MR (h:∀F a,Env F a n E→∀w,(execOp a.eval o).run P w= .ok (.value v) w):gT P n E L o (.raw v):=MU λF a hE=>⟨v,by simp only[SV.ok],h F a hE⟩
theorem gT.move (h:ev E x=some s):gT P n E L ⟨some d,.move x,ty,pos,aft,none⟩ s:=MU λF a hE=>⟨_,hE.eval h,λw=>by simp[execOp]⟩
theorem O6 (h:ev E x=some s):gT P n E L ⟨some d,.assign x,ty,pos,aft,none⟩ s:=MU λF a hE=>⟨_,hE.eval h,λw=>by simp[execOp]⟩
theorem gT.pick (h:ev E x=some (.raw (.bool c))) (h1:c=true→ev E y=some s) (h2:c=false→ev E z=some s):gT P n E L ⟨some d,.pick x y z,ty,pos,aft,none⟩ s:=MU λF a hE=>by cases c with|true=>exact⟨_,hE.eval (h1 rfl),λw=>by simp[execOp,hE.raw h,asBool]⟩|false=>exact⟨_,hE.eval (h2 rfl),λw=>by simp[execOp,hE.raw h,asBool]⟩
def eI (k:IntKind) (x y:Int):Int:=k.wrap ((BitVec.ofInt k.bits x&&&BitVec.ofInt k.bits y).toNat)
def qH (k:IntKind) (x y:Int):Int:=k.wrap ((BitVec.ofInt k.bits x|||BitVec.ofInt k.bits y).toNat)
def bJ (k:IntKind) (x y:Int):Int:=k.wrap ((BitVec.ofInt k.bits x^^^BitVec.ofInt k.bits y).toNat)
def V8 (k:IntKind) (x y:Int):Int:=k.wrap ((BitVec.ofInt k.bits x&&&~~~BitVec.ofInt k.bits y).toNat)
def J_ (k:IntKind) (x:Int):Int:=k.wrap ((BitVec.ofInt k.bits (if k.signed then -1 else k.max)^^^BitVec.ofInt k.bits x).toNat)
def eD (k:IntKind) (x y:Int):Int:=k.wrap (x*2^min y.toNat k.bits)
def ef (k:IntKind) (x y:Int):Int:=x.fdiv (2^min y.toNat k.bits)
def QU (op:BinOp) (k:IntKind) (x y:Int):Option Value:=match op with| .add=>some (.int k (k.wrap (x+y)))| .sub=>some (.int k (k.wrap (x - y)))| .mul=>some (.int k (k.wrap (x*y)))| .and=>some (.int k (eI k x y))| .or=>some (.int k (qH k x y))| .xor=>some (.int k (bJ k x y))| .andNot=>some (.int k (V8 k x y))| .eql=>some (.bool (x==y))| .neq=>some (.bool (x != y))| .lss=>some (.bool (decide (x<y)))| .leq=>some (.bool (decide (x≤y)))| .gtr=>some (.bool (decide (x>y)))| .geq=>some (.bool (decide (x≥y)))|_=>none
theorem OG (hX:ev E X=some (.raw (.int k x))) (hY:ev E Y=some (.raw (.int k y))) (hv:QU b k x y=some v):gT P n E L ⟨some d,.binOp b t X Y u,ty,pos,aft,none⟩ (.raw v):=MR λF a hE w=>by have e1:=hE.raw hX;have e2:=hE.raw hY;cases b<;>simp only[QU,Option.some.injEq,reduceCtorEq] at hv<;>subst hv<;>simp[execOp,e1,e2,eqGuard,binOp,Op.intArith,Op.intBits,Op.intCmp,eI,qH,bJ,V8]
def Wg (op:BinOp) (k:IntKind) (x y:Int):Option Value:=match op with| .quo=>some (.int k (k.wrap (x.tdiv y)))| .rem=>some (.int k (x.tmod y))|_=>none
theorem gT.quo (hX:ev E X=some (.raw (.int k x))) (hY:ev E Y=some (.raw (.int k y))) (hy:y≠0) (hv:Wg b k x y=some v):gT P n E L ⟨some d,.binOp b t X Y u,ty,pos,aft,none⟩ (.raw v):=MR λF a hE w=>by have e1:=hE.raw hX;have e2:=hE.raw hY;cases b<;>simp only[Wg,Option.some.injEq,reduceCtorEq] at hv<;>subst hv<;>simp[execOp,e1,e2,eqGuard,binOp,Op.intDiv,hy]
def MF:=@gT.quo
def Za (op:BinOp) (k:IntKind) (x y:Int):Option Value:=match op with| .shl=>some (.int k (eD k x y))| .shr=>some (.int k (ef k x y))|_=>none
theorem MP (hX:ev E X=some (.raw (.int k x))) (hY:ev E Y=some (.raw (.int k' y))) (hy:0≤y) (hv:Za b k x y=some v):gT P n E L ⟨some d,.binOp b t X Y u,ty,pos,aft,none⟩ (.raw v):=MR λF a hE w=>by have e1:=hE.raw hX;have e2:=hE.raw hY;(have c:¬y<0:=by omega);cases b<;>simp only[Za,Option.some.injEq,reduceCtorEq] at hv<;>subst hv<;>simp[execOp,e1,e2,eqGuard,binOp,Op.shift,c,eD,ef]
theorem gT.not (hX:ev E X=some (.raw (.bool c))):gT P n E L ⟨some d,.unOp .not t X,ty,pos,aft,none⟩ (.raw (.bool (!c))):=MR λF a hE w=>by simp[execOp,hE.raw hX,Op.unary]
def ML:=@gT.not
theorem gT.neg {k:IntKind} (hX:ev E X=some (.raw (.int k x))):gT P n E L ⟨some d,.unOp .neg t X,ty,pos,aft,none⟩ (.raw (.int k (k.wrap (0 - x)))):=MR λF a hE w=>by simp[execOp,hE.raw hX,Op.unary,Op.intArith]
theorem O7 (hX:ev E X=some (.raw (.int k x))):gT P n E L ⟨some d,.unOp .xor t X,ty,pos,aft,none⟩ (.raw (.int k (J_ k x))):=MR λF a hE w=>by simp[execOp,hE.raw hX,Op.unary,Op.intBits,J_]
theorem M0 {k:IntKind} (hs:(P.underlying q).isSome=true) (ht:P.underlying t=some (.int k)) (hX:ev E X=some (.raw (.int k' x))):gT P n E L ⟨some d,.convert q t X,ty,pos,aft,none⟩ (.raw (.int k (k.wrap x))):=MR λF a hE w=>by obtain⟨ds,b⟩:=Option.isSome_iff_exists.1 hs;simp[execOp,hE.raw hX,convert,IE b,IE ht,Conv.intToInt]
theorem gT.len {xs:List α} (ht:P.underlying t=some (.slice e)) (hX:ev E X=some s) (hr:il s (cc K) xs):gT P n E L ⟨some d,.call ⟨.builtin .len,#[X],#[t]⟩,ty,pos,aft,none⟩ (.raw (.int .i64 xs.length)):=MR λF a hE w=>by obtain⟨a0,cap,he,_⟩:=cc.at_ (hr F _ (hE.eval hX));simp[execOp,resolve,invoke,builtin,Builtin.len_,IE ht,he,goInt]
def Nd:=@gT.len
theorem M1 (hX:ev E X=some (.tup l)) (hi:l[i]? =some s):gT P n E L ⟨some d,.extract X i,ty,pos,aft,none⟩ s:=MU λF a hE=>by have:=hE.eval hX;simp only[SV.ok] at this;obtain⟨vs,he,ho⟩:=this;(have:∀(l:List SV) (vs:List Value) (i:Nat),SV.oks F vs l→l[i]? =some s→∃v,vs[i]? =some v∧s.ok F v:=by intro l;induction l with|nil=>intro vs i _ h;cases h|cons t l ih=>intro vs i h hi;cases vs with|nil=>simp only[SV.oks] at h|cons v vs=>simp only[SV.oks] at h;cases i with|zero=>simp at hi;subst hi;exact⟨v,rfl,h.1⟩|succ i=>simpa using ih vs i h.2 (by simpa using hi));obtain⟨v,h1,h2⟩:=this l vs i ho hi;exact⟨v,h2,λw=>by simp[execOp,he,Instr.extract,h1]⟩
def Qo (P:Program) (T:TypeId):Option Bool:=match P.underlying T with|some (.struct _)|some (.array _ _)=>some true|some _=>some false|none=>none
structure KT {α:Type} (P:Program) (T:TypeId) (K:Kd α):Prop where
 size:(P.info? T).map (·.size)=some K.n
 agg:Qo P T=some K.agg
theorem yR (h:Qo P T=some b) (w:World):(isAgg T).run P w= .ok b w:=by unfold Qo at h;cases hu:P.underlying T with|none=>rw[hu] at h;cases h|some ds=>unfold isAgg;rw[IC,IE hu w];rw[hu] at h;cases ds<;>simp_all
theorem H1 (h:Qo P T=some b):∃ds,P.underlying T=some ds:=by unfold Qo at h;cases hu:P.underlying T with|none=>rw[hu] at h;cases h|some ds=>exact⟨ds,rfl⟩
theorem nn {K:Kd α} (hT:KT P T K) {w:World} {p:Addr} {c:Array Value} (hp:p.spot=none) (hb:w.heap[p.block]? =some (.cells c e fr)) (hle:p.off+K.n≤c.size):(Instr.loadAt T (.pointer (some p))).run P w= .ok (zG K.agg ((c.toList.drop p.off).take K.n)) w:=by obtain⟨b,off,spot⟩:=p;simp only at hp hb hle;subst hp;(have hlen:((c.toList.drop off).take K.n).length=K.n:=by simp;omega);cases ha:K.agg with|true=>obtain⟨ds,hu⟩:=H1 hT.agg;(have hrow:ds.isRow=true:=by have:=hT.agg;unfold Qo at this;rw[hu,ha] at this;cases ds<;>simp_all [TypeDesc.isRow]);refine run_loadAt_mid w b off T _ ds (λj v hv=>?_) hu hrow (by rw[hlen];exact hT.size);(have hcell:w.cell? ⟨b,off+j,none⟩=c[off+j]? :=by simp[World.cell?,hb]);rw[hcell];(have hj:j<K.n:=by have h9:=(It.1 hv).1;simp only[IM] at h9;omega);rw[IT hj,Jc] at hv;simpa using hv|false=>have h1:=K.sole ha;have hisagg:=yR (P:=P) (by rw[hT.agg,ha]:Qo P T=some false) w;(have hlt:off<c.size:=by omega);(have hcell:w.cell? ⟨b,off,none⟩=some c[off]:=by simp[World.cell?,hb,hlt]);(have hl:(load ⟨b,off,none⟩).run P w= .ok c[off] w:=by simp[load,Sem.run,hcell]);(have htk:((c.toList.drop off).take K.n)=[c[off]]:=by rw[h1];rw[J1 (by simpa using hlt)];simp);simp only[Instr.loadAt,Instr.sureAddr,IC,IJ,Iv,loadVar,hisagg,hl,htk];simp[zG,hl]
theorem Mz (hT:KT P T K) (hX:ev E X=some (.ptr K x)):gT P n E L ⟨some d,.load T X,ty,pos,aft,none⟩ (.val K x):=λF a hE=>by have:=hE.eval hX;simp only[SV.ok] at this;obtain⟨p,he,hp⟩:=this;obtain⟨c,e,fr,hs,hb,hle,hr⟩:=hp.out;refine⟨_,by simp only[SV.ok];exact⟨_,hr,rfl⟩,λw ⟨G,hg,hS⟩=>?_⟩;have:=nn hT hs (hS.on.blk _ _ (hg.blk _ _ hb)) hle;unfold Oper.quietAt;simp[execOp,he,this,Oper.quietUpon]
theorem N8 (h:gT P n E L o (.val (bD k) x)):gT P n E L o (.raw (.int k x)):=λF a hE=>by obtain⟨v,hv,hw⟩:=h F a hE;exact⟨v,by simp only[SV.ok] at*;exact ra.1 hv,hw⟩
theorem Mw (hT:KT P T (bD k)) (hX:ev E X=some (.ptr (bD k) x)):gT P n E L ⟨some d,.load T X,ty,pos,aft,none⟩ (.raw (.int k x)):=N8 (Mz hT hX)
theorem dK (h:(P.info? T).map (·.size)=some m) (w:World):(sizeOf T).run P w= .ok m w:=by cases hq:P.info? T with|none=>rw[hq] at h;cases h|some i=>(rw[hq] at h;have:i.size=m:=by simpa using h);simp[sizeOf,typeInfo,hq,this]
def cv (P:Program) (T:TypeId) (i:Nat):Option (Nat×Nat):=match P.underlying T with|some (.struct fs)=>(fs[i]?).bind λf=>((P.info? f.type).map (·.size)).map λs=>(f.offset,s)|_=>none
theorem wM (h:cv P T i=some (o,m+1)) (p:Addr) (hp:p.spot=none) (w:World):(Instr.fieldAt T (.pointer (some p)) i).run P w= .ok (.pointer (some ⟨p.block,p.off+o,none⟩)) w:=by unfold cv at h;split at h;rename_i fs hu;obtain⟨f,hf,h⟩:=Jp.1 h;obtain⟨s',hs,h⟩:=Jh.1 h;simp only[Prod.mk.injEq] at h;obtain⟨rfl,rfl⟩:=h;have hsz:=dK hs;(have hadd:p.add f.offset=⟨p.block,p.off+f.offset,none⟩:=by obtain⟨b,off,sp⟩:=p;simp only at hp;subst hp;exact Je b off _);simp[Instr.fieldAt,IE hu,hf,Instr.sureAddr,fieldPlace,hsz,hadd];cases h
theorem MM {β:Type} {fs:List (kJ β)} {T:TypeId} {X:Operand} {i m:Nat} {x:β} {f:kJ β} (hT:cv P T i=some (dH fs i,m+1)) (hf:fs[i]? =some f) (hX:ev E X=some (.ptr (pH fs) x)):gT P n E L ⟨some d,.fieldAddr T X i,ty,pos,aft,none⟩ (.ptr f.K (f.get x)):=MU λF a hE=>by have:=hE.eval hX;simp only[SV.ok] at this;obtain⟨p,he,hp⟩:=this;obtain⟨_,_,_,hs,_⟩:=hp.out;exact⟨.pointer (some ⟨p.block,p.off+dH fs i,none⟩),by simp only[SV.ok];exact⟨_,rfl,hp.fld hf⟩,λw=>by simp[execOp,he,wM hT p hs w]⟩
def idx {α:Type} (xs:List α) (i:Int):Option α:=if 0≤i then xs[i.toNat]? else none
theorem kY {xs:List α} {i:Int} (h:idx xs i=some x):0≤i∧i<xs.length∧xs[i.toNat]? =some x:=by unfold idx at h;split at h;rename_i h0;have:=(It.1 h).1;exact⟨h0,by omega,h⟩;cases h
theorem sx {m':Nat} (hT:P.underlying T=some (.slice e)) (hs:(P.info? e).map (·.size)=some m') {p:Addr} {m c:Nat} {i:Int} (h0:0≤i) (h1:i<m) (hp:p.spot=none) (w:World):(Instr.indexAt T (.slice (some p) m c) (.int q i)).run P w= .ok (.pointer (some ⟨p.block,p.off+i.toNat*m',none⟩)) w:=by(have hadd:p.add (i.toNat*m')=⟨p.block,p.off+i.toNat*m',none⟩:=by obtain⟨b,off,sp⟩:=p;simp only at hp;subst hp;exact Je b off _);simp[Instr.indexAt,asIntOf,IE hT,dK hs,h0,h1,hadd]
theorem MA {α:Type} {K:Kd α} {T e:TypeId} {X I:Operand} {xs:List α} {x:α} {q:IntKind} {i:Int} (hx:idx xs i=some x) (hT:P.underlying T=some (.slice e)) (hs:(P.info? e).map (·.size)=some K.n) (hX:ev E X=some s) (hr:il s (cc K) xs) (hI:ev E I=some (.raw (.int q i))):gT P n E L ⟨some d,.indexAddr T X I,ty,pos,aft,none⟩ (.ptr K x):=MU λF a hE=>by obtain⟨a0,cap,he,hat⟩:=cc.at_ (hr F _ (hE.eval hX));obtain⟨h0,h1,hx⟩:=kY hx;obtain⟨p,rfl,hp,hrd⟩:=hat _ _ hx;exact⟨.pointer (some ⟨p.block,p.off+i.toNat*K.n,none⟩),by simp only[SV.ok];exact⟨_,rfl,hrd⟩,λw=>by simp[execOp,he,hE.raw hI,sx hT hs h0 h1 hp w]⟩
theorem sy (hT:P.underlying T=some (.array m e)) (hs:(P.info? e).map (·.size)=some m') {p:Addr} {i:Int} (h0:0≤i) (h1:i<m) (hp:p.spot=none) (w:World):(Instr.indexAt T (.pointer (some p)) (.int q i)).run P w= .ok (.pointer (some ⟨p.block,p.off+i.toNat*m',none⟩)) w:=by(have hadd:p.add (i.toNat*m')=⟨p.block,p.off+i.toNat*m',none⟩:=by obtain⟨b,off,sp⟩:=p;simp only at hp;subst hp;exact Je b off _);simp[Instr.indexAt,asIntOf,IE hT,dK hs,h0,h1,hadd,Instr.sureAddr]
theorem MK {K:Kd α} {xs:List α} {i:Int} (hx:idx xs i=some x) (hT:P.underlying T=some (.array m e)) (hs:(P.info? e).map (·.size)=some K.n) (hX:ev E X=some (.ptr (bR m K) xs)) (hI:ev E I=some (.raw (.int q i))):gT P n E L ⟨some d,.indexAddr T X I,ty,pos,aft,none⟩ (.ptr K x):=MU λF a hE=>by have:=hE.eval hX;simp only[SV.ok] at this;obtain⟨p,he,hu⟩:=this;obtain⟨h0,h1,hx⟩:=kY hx;obtain⟨_,_,_,hp,_,_,hr⟩:=hu.out;have hm:xs.length=m:=hr.1;exact⟨.pointer (some ⟨p.block,p.off+i.toNat*K.n,none⟩),by simp only[SV.ok];exact⟨_,rfl,hu.arr hx⟩,λw=>by simp[execOp,he,hE.raw hI,sy hT hs h0 (by omega) hp w]⟩
def Uz (E:List (Nat×SV)):List Operand→Option (List SV)|[]=>some []|x::xs=>match ev E x,Uz E xs with|some s,some l=>some (s::l)|_,_=>none
theorem Nw {a:Act} (hE:Env F a n E):∀{xs:List Operand} {l:List SV},Uz E xs=some l→SV.oks F (xs.map a.eval) l|[],l,h=>by cases h;simp only[JT,SV.oks]|x::xs,l,h=>by simp only[Uz] at h;split at h;rename_i s l' h1 h2;cases h;simp only[IU,SV.oks];exact⟨hE.eval h1,Nw hE h2⟩;cases h
theorem bl.call {f:FuncId} {X:Operand} {xs:List Operand} {g:Array TypeId} {l:List SV} {L':List bM} (hc:∀b w,(callFunc f b).run P w= .ok (.enter f b) w) (hX:ev E X=some (.raw (.func (.func f) #[] #[]))) (hx:Uz E xs=some l) (ho:Ok P f l L s L') (hd:Nat.blt d n=true) (k:bl F0 n ((d,s)::E) L' (wpList P h Q c)):bl F0 n E L (wpList P h Q (⟨some d,.call ⟨.value X,xs.toArray,g⟩,ty,pos,aft,none⟩::c)):=ME rfl λF a w h0 hE hS=>by have hv:=Nw hE hx;have h1:=ho F w _ hv hS;unfold Oper.wp;simp only[execOp,resolve,hE.raw hX,Deferred.ofValue,invoke,JR,IC,IJ,Iv,Kp,KZ];rw[hc];exact h1.mono λe w' ⟨G,v,he,hg,hS',i⟩=>by subst he;exact k G _ _ (Nj h0 hg) ((hE.mono hg).put hd i) hS'
theorem gT.call {f:FuncId} {X:Operand} {xs:List Operand} {h:Array TypeId} {l:List SV} {v:Value} (hc:∀b w,(callFunc f b).run P w= .ok (.enter f b) w) (hX:ev E X=some (.raw (.func (.func f) #[] #[]))) (hx:Uz E xs=some l) (ho:∀L,Ok P f l L (.raw v) L):gT P n E L ⟨some d,.call ⟨.value X,xs.toArray,h⟩,ty,pos,aft,none⟩ (.raw v):=λF a hE=>by refine⟨v,by simp only[SV.ok],λw ⟨G0,c,hS⟩=>?_⟩;have hv:=Nw (hE.mono c) hx;have h1:=ho L G0 w _ hv hS;unfold Oper.quietAt;simp only[execOp,resolve,hE.raw hX,Deferred.ofValue,invoke,JR,IC,IJ,Iv,Kp,KZ];rw[hc];refine⟨rfl,h1.mono λe w' ⟨G,u,he,hg,hS',g⟩=>?_⟩;simp only[SV.ok] at g;subst g;exact⟨he,G,Nj c hg,hS'⟩
end
end Go.Sim
namespace Go.Sim
open Go
structure Pl {β α:Type} (K0:Kd β) (off:Nat) (K:Kd α) (g:β→Option α) (st:β→α→β):Prop where
 get:∀{F cs x y},K0.rd F cs x→g x=some y→off+K.n≤cs.length∧K.rd F ((cs.drop off).take K.n) y
 set:∀{F cs x c y z},K0.rd F cs x→g x=some z→K.rd F c y→K0.rd F (cs.take off++c++cs.drop (off+K.n)) (st x y)
theorem Pl.id {K0:Kd β}:Pl K0 0 K0 some (λ_ y=>y) where
 get:=λh e=>by cases e;have:=K0.len h;simp only[IX,JX];rw[←this,IY];exact⟨IL _,h⟩
 set:=λh _ hy=>by have:=K0.len h;simpa[←this] using hy
theorem xH.set:∀{fs:List (kJ β)} {cs c:List Value} {x x':β} {i:Nat} {f:kJ β},xH F fs cs x→fs[i]? =some f→f.K.rd F c (f.get x')→(∀j g,fs[j]? =some g→j≠i→g.get x'=g.get x)→xH F fs (cs.take (dH fs i)++c++cs.drop (dH fs i+f.K.n)) x'|[],_,_,_,_,_,_,_,h,_,_=>by cases h|g::fs,cs,c,x,x',0,f,⟨c0,d,e,h,r⟩,hf,hy,ho=>by cases hf;subst e;have hl:=g.K.len h;simp only[dH,Ku,IP,IX];rw[←hl,LP];refine⟨c,d,rfl,hy,?_⟩;(have:∀(fs:List (kJ β)) (d:List Value),(∀g∈fs,g.get x'=g.get x)→xH F fs d x→xH F fs d x':=by intro fs;induction fs with|nil=>intro d _ h;exact h|cons g fs ih=>intro d hg ⟨c1,d1,e,h,r⟩;exact⟨c1,d1,e,by rw[hg g (by simp)];exact h,ih d1 (λg a=>hg g (by simp[a])) r⟩);refine this fs d (λq hq=>?_) r;obtain⟨j,hj⟩:=List.getElem?_of_mem hq;exact ho (j+1) q (by simpa using hj) (by omega)|g::fs,cs,c,x,x',i+1,f,⟨c0,d,e,h,r⟩,hf,hy,ho=>by subst e;have hl:=g.K.len h;have ih:=xH.set r (i:=i) (f:=f) (x':=x') (by simpa using hf) hy (λj q hq hj=>ho (j+1) q (by simpa using hq) (by omega));simp only[dH];rw[←hl,Lk,Mi,Lj];refine⟨c0,_,by simp,?_,ih⟩;rw[ho 0 g rfl (by omega)];exact h
def PR {β:Type} (x x':β):List (kJ β)→Nat→Prop|[],_=>True|g::fs,0=>(∀q∈fs,q.get x'=q.get x)|g::fs,i+1=>g.get x'=g.get x∧PR x x' fs i
theorem PR.spec:∀{fs:List (kJ β)} {i:Nat},PR x x' fs i→∀j g,fs[j]? =some g→j≠i→g.get x'=g.get x|[],_,_,j,g,h,_=>by cases h|q::fs,0,hb,j,g,h,hj=>(by cases j with|zero=>exact absurd rfl hj|succ j=>exact hb g (I0 (by simpa using h)))|q::fs,i+1,hb,j,g,h,hj=>by cases j with|zero=>cases h;exact hb.1|succ j=>exact PR.spec hb.2 j g (by simpa using h) (by omega)
theorem yG {cs:List Value} (h:u+q≤m):cs.take o++(((cs.drop o).take m).take u++c++((cs.drop o).take m).drop (u+q))++cs.drop (o+m)=cs.take (o+u)++c++cs.drop (o+u+q):=by rw[KE,Jq (by omega),KO];have h1:cs.take (o+u)=cs.take o++(cs.drop o).take u:=KU;(have h2:cs.drop (o+u+q)=((cs.drop o).drop (u+q)).take (m - (u+q))++cs.drop (o+m):=by have e:=Jl (m - (u+q)) ((cs.drop o).drop (u+q));rw[Js,Js,show o+(u+q)+(m - (u+q))=o+m by omega,←Mi] at e;rw[Js,←Mi];exact e.symm);rw[h1,h2];simp only[IR]
theorem Pl.fld {β γ:Type} {K0:Kd β} {o:Nat} {fs:List (kJ γ)} {g:β→Option γ} {st:β→γ→β} (p:Pl K0 o (pH fs) g st) {i:Nat} {f:kJ γ} (hf:fs[i]? =some f) (s1:γ→f.α→γ)
  (h1:∀x y,f.get (s1 x y)=y) (h2:∀x y,PR x (s1 x y) fs i):
  Pl K0 (o+dH fs i) f.K (λx=>(g x).map f.get) (λx y=>match g x with|some z=>st x (s1 z y)|none=>x) where
 get:=λ{F cs x y} h e=>by
  obtain⟨z,hz,rfl⟩:=Jh.1 e
  obtain⟨a,b⟩:=p.get h hz
  obtain⟨a',b'⟩:=xH.get b hf
  have hn:((List.drop o cs).take (pH fs).n).length=(pH fs).n:=by simp only[IM,IZ];omega
  rw[hn] at a'
  refine⟨by omega,?_⟩
  rwa [fU a'] at b'
 set:=λ{F cs x c y z'} h e hy=>by
  obtain⟨z,hz,rfl⟩:=Jh.1 e
  obtain⟨a,b⟩:=p.get h hz
  obtain⟨a',b'⟩:=xH.get b hf
  have hn:((List.drop o cs).take (pH fs).n).length=(pH fs).n:=by simp only[IM,IZ];omega
  rw[hn] at a'
  have hs:=xH.set b hf (x':=s1 z y) (by rw[h1];exact hy) (PR.spec (h2 z y))
  have:=p.set h hz (c:=_) (y:=s1 z y) hs
  simp only[hz]
  refine cast (congrArg (λl=>K0.rd F l _) ?_) this
  exact yG a'
theorem Pl.ix {K0:Kd β} {K:Kd α} (p:Pl K0 o (bR m K) g st) (i:Nat):
  Pl K0 (o+i*K.n) K (λx=>(g x).bind λxs=>xs[i]?) (λx y=>match g x with|some xs=>st x (xs.set i y)|none=>x) where
 get:=λh e=>by
  obtain⟨xs,hz,e⟩:=Jp.1 e
  obtain⟨a,hl,b⟩:=p.get h hz
  have hi:i<xs.length:=(It.1 e).1
  have h1:(i+1)*K.n≤m*K.n:=Iz _ (by omega)
  rw[Jk] at h1
  have a':o+m*K.n≤_:=a
  refine⟨by omega,?_⟩
  have:=b.get e
  rwa [show(bR m K).n=m*K.n from rfl,fU (by omega)] at this
 set:=λ{F cs x c y z'} h e hy=>by
  obtain⟨xs,hz,e⟩:=Jp.1 e
  obtain⟨a,hl,b⟩:=p.get h hz
  have hi:i<xs.length:=(It.1 e).1
  have hs:=b.set hi hy
  have:=p.set h hz (c:=_) (y:=xs.set i y) ⟨by simpa using hl,hs⟩
  simp only[hz]
  refine cast (congrArg (λl=>K0.rd F l _) ?_) this
  have h1:(i+1)*K.n≤m*K.n:=Iz _ (by omega)
  rw[Jk] at h1
  exact yG (u:=i*K.n) (q:=K.n) (m:=m*K.n) h1
section
variable {P:Program} {ops:Array Oper} {Q:Exit→Act→World→Prop} {rest:List Oper} {F0:Fz} {n:Nat} {E:List (Nat×SV)} {L:List bM}
variable {d:Nat} {op:Op} {ty:TypeId} {pos:String} {aft:Array Edge} {s:SV}
theorem oa (o:Obj) (w:World):(newObj o).run P w= .ok w.heap.size (w.alloc o):=rfl
theorem ms (w:World) (o:Obj):SR w (w.alloc o) dv.emp:=⟨rfl,rfl,rfl,λb hb _=>Lm w o b hb⟩
theorem nL (w:World) (o:Obj):(∀b,dv.one w.heap.size o b≠none→w.heap.size≤b)∧∀b q,dv.one w.heap.size o b=some q→(w.alloc o).heap[b]? =some q:=⟨λb hb=>by by_cases h:b=w.heap.size;omega;exact absurd (MY o h) hb,λb q h=>by obtain⟨rfl,rfl⟩:=MT h;exact heap_alloc_new w _⟩
theorem Pf {K:Kd α} (hX:ev E X=some s) (hr:il s K x) (hd:Nat.blt d n=true) (k:bl F0 n ((d,.ptr K x)::E) L (wpList P f Q c)):bl F0 n E L (wpList P f Q (⟨some d,.box T X,ty,pos,aft,none⟩::c)):=ME rfl λF a w h0 hE hS=>by have hv:=hr F _ (hE.eval hX);obtain⟨g,h⟩:=nL w (.cells (a.eval X).cells T);obtain⟨b,hS'⟩:=OP hS (dv.one w.heap.size (.cells (a.eval X).cells T)) (ms w _) g h;(have hp:PU (F.add (dv.one w.heap.size (.cells (a.eval X).cells T))) ⟨w.heap.size,0,none⟩ K x:=by refine⟨(a.eval X).cells,T,(0,0),rfl,?_,by have:=hv.sizeEq;simp only[IX];omega,?_⟩;have:=hS.on;simp only[Fz.add];rw[q8.fresh hS _ (IL _)];exact Mo _ _;have h1:=hv.rd;have h2:=K.len h1;simp only[JX];rw[←h2,IY];exact K.mono b h1);(have e:(execOp a.eval (⟨some d,.box T X,ty,pos,aft,none⟩:Oper)).run P w= .ok (.value (.pointer (some ⟨w.heap.size,0,none⟩))) (w.alloc (.cells (a.eval X).cells T)):=by simp[execOp,Instr.box,newVar,newRow,oa]);unfold Oper.wp;rw[e];exact k _ _ _ (Nj h0 b) ((hE.mono b).put hd (by simp only[SV.ok];exact⟨_,rfl,hp⟩)) hS'
theorem MV (hX:ev E X=some s) (hr:il s K x) (hd:Nat.blt d n=true) (k:∀b,bl F0 n ((d,.raw (.pointer (some ⟨b,0,none⟩)))::E) (.box K b T x::L) (wpList P f Q c)):bl F0 n E L (wpList P f Q (⟨some d,.box T X,ty,pos,aft,none⟩::c)):=ME rfl λF a w h0 hE hS=>by have hv:=hr F _ (hE.eval hX);obtain⟨g,h⟩:=nL w (.cells (a.eval X).cells T);have i:St F (w.alloc (.cells (a.eval X).cells T)) (.box K w.heap.size T x::L):=NQ hS _ ⟨_,hv.rd,by simp⟩ (ms w _) g h;(have e:(execOp a.eval (⟨some d,.box T X,ty,pos,aft,none⟩:Oper)).run P w= .ok (.value (.pointer (some ⟨w.heap.size,0,none⟩))) (w.alloc (.cells (a.eval X).cells T)):=by simp[execOp,Instr.box,newVar,newRow,oa]);unfold Oper.wp;rw[e];exact k _ _ _ _ h0 (hE.put hd (by simp only[SV.ok])) i
def ZT {α:Type} (P:Program) (T:TypeId) (K:Kd α) (z:α):Prop:=∃v,(P.info? T).bind (·.zero)=some v∧∀F,K.rd F v.cells.toList z
theorem mX (h:(P.info? T).bind (·.zero)=some v) (w:World):(zeroValue T).run P w= .ok v w:=by obtain⟨i,hi,hz⟩:=Jp.1 h;simp[zeroValue,typeInfo,hi,hz]
theorem Pv (hz:ZT P T K z) (hd:Nat.blt d n=true) (k:∀b,bl F0 n ((d,.raw (.pointer (some ⟨b,0,none⟩)))::E) (.box K b T z::L) (wpList P f Q c)):bl F0 n E L (wpList P f Q (⟨some d,.alloc T,ty,pos,aft,none⟩::c)):=ME rfl λF a w h0 hE hS=>by obtain⟨v,hv,hrd⟩:=hz;obtain⟨g,h⟩:=nL w (.cells v.cells T);have i:St F (w.alloc (.cells v.cells T)) (.box K w.heap.size T z::L):=NQ hS _ ⟨_,hrd F,by simp⟩ (ms w _) g h;(have e:(execOp a.eval (⟨some d,.alloc T,ty,pos,aft,none⟩:Oper)).run P w= .ok (.value (.pointer (some ⟨w.heap.size,0,none⟩))) (w.alloc (.cells v.cells T)):=by simp[execOp,Instr.alloc,mX hv,newVar,newRow,oa]);unfold Oper.wp;rw[e];exact k _ _ _ _ h0 (hE.put hd (by simp only[SV.ok])) i
theorem Pg {K:Kd α} (ht:look E t=some (.raw (.pointer (some ⟨b,0,none⟩)))) (k:bl F0 n ((t,.ptr K x)::E) L X):bl F0 n E (.box K b T x::L) X:=λF a w h0 hE hS=>by obtain⟨h,⟨cs,c,rfl⟩,hap,d,hS'⟩:=hS.freeze;have f:F.blk b=none:=hap b (by rw[Mo];simp);(have hp:PU (F.add (dv.one b (.cells cs.toArray T (0,0)))) ⟨b,0,none⟩ K x:=by have h2:=K.len c;refine⟨cs.toArray,T,(0,0),rfl,?_,by simp;omega,?_⟩;simp only[Fz.add,f];exact Mo _ _;simp only[JX];rw[←h2,IY];exact c);refine k _ a w (Nj h0 d) ⟨hE.defers,hE.size,λu r e=>?_⟩ hS';rw[de] at e;split at e;rename_i hk;subst hk;cases e;obtain⟨v,h1,h2⟩:=hE.at_ t _ ht;simp only[SV.ok] at h2;subst h2;exact⟨_,h1,by simp only[SV.ok];exact⟨_,rfl,hp⟩⟩;exact(hE.mono d).at_ u r e
theorem vp (hT:(P.info? T).map (·.size)=some m) {w:World} {cs:List Value} (hb:w.heap[b]? =some (.cells cs.toArray e (0,0))) {v:Value} (hv:v.cells.size=m) (h1:∀u∈v.cells.toList,u.oneCell'=true) (hle:off+m≤cs.length):∃w',(Instr.storeAt T (.pointer (some ⟨b,off,none⟩)) v).run P w= .ok () w'∧w'.heap[b]? =some (.cells (cs.take off++v.cells.toList++cs.drop (off+m)).toArray e (0,0))∧SR w w' (dv.one b (.cells cs.toArray e (0,0))):=by(have hl:v.cells.toList.length=m:=by simpa using hv);have hst:=run_storeCells_at P b off e v.cells.toList 0 cs.toArray w hb (by simp;omega) h1;simp only[KK,hl] at hst;refine⟨w.setRow b (cs.take off++v.cells.toList++cs.drop (off+m)).toArray,?_,setRow_heap w b cs.toArray _ e _ hb,⟨rfl,rfl,rfl,λk hk hn=>setRow_other w b k _ (λe=>by rw[e,Mo] at hn;cases hn)⟩⟩;simp only[Instr.storeAt,Instr.sureAddr,IC,IJ,Iv,storeVar,dK hT,hv];simpa using hst
end
end Go.Sim
namespace Go.Sim
open Go
section
variable {P:Program} {ops:Array Oper} {Q:Exit→Act→World→Prop} {rest:List Oper} {F0:Fz} {n:Nat} {E:List (Nat×SV)} {L:List bM}
variable {d:Nat} {op:Op} {ty:TypeId} {pos:String} {aft:Array Edge} {s:SV}
theorem OX (h:look E t=some (.val (bD k) x)) (kk:bl F0 n ((t,.raw (.int k x))::E) L X):bl F0 n E L X:=λF a w h0 hE hS=>kk F a w h0 ⟨hE.defers,hE.size,λu r e=>by rw[de] at e;split at e;rename_i hk;subst hk;cases e;obtain⟨v,h1,h2⟩:=hE.at_ t _ h;exact⟨v,h1,by simp only[SV.ok] at*;exact ra.1 h2⟩;exact hE.at_ u r e⟩ hS
theorem N9 (h:look E t=some (.val oi x)) (kk:bl F0 n ((t,.raw (.bool x))::E) L X):bl F0 n E L X:=λF a w h0 hE hS=>kk F a w h0 ⟨hE.defers,hE.size,λu r e=>by rw[de] at e;split at e;rename_i hk;subst hk;cases e;obtain⟨v,h1,h2⟩:=hE.at_ t _ h;exact⟨v,h1,by simp only[SV.ok] at*;exact yQ.1 h2⟩;exact hE.at_ u r e⟩ hS
class VT {α:Type} (K:Kd α):Prop where
 det:∀{F G cs ds x},K.rd F cs x→K.rd G ds x→cs=ds
instance {k:IntKind}:VT (bD k):=⟨λh h'=>by cases h;cases h';rfl⟩
instance:VT oi:=⟨λh h'=>by cases h;cases h';rfl⟩
theorem cj.det {α:Type} {K:Kd α} [VT K]:∀{xs:List α} {F G:Fz} {cs ds:List Value},cj K F cs xs→cj K G ds xs→cs=ds|[],_,_,_,_,h,h'=>by cases h;cases h';rfl|x::xs,_,_,_,_,⟨c,d,e,h,r⟩,⟨c',d',e',h',r'⟩=>by subst e;subst e';rw[VT.det h h',cj.det r r']
instance {α:Type} {m:Nat} {K:Kd α} [VT K]:VT (bR m K):=⟨λh h'=>cj.det h.2 h'.2⟩
theorem MW (hT:cv P T i=some (o,m+1)) (hX:ev E X=some (.raw (.pointer (some ⟨b,off,none⟩)))):gT P n E L ⟨some d,.fieldAddr T X i,ty,pos,aft,none⟩ (.raw (.pointer (some ⟨b,off+o,none⟩))):=MR λF a hE w=>by simp[execOp,hE.raw hX,wM hT ⟨b,off,none⟩ rfl w]
inductive gI {β:Type} (E:List (Nat×SV)) (fs:List (kJ β)):List (Nat×Operand)→β→β→Prop where
 |nil (x:β):gI E fs [] x x
 |cons {i:Nat} {X:Operand} {ps:List (Nat×Operand)} {x x' y:β} {f:kJ β} {s:SV} (hf:fs[i]? =some f) (hX:ev E X=some s) (hr:il s f.K (f.get x')) (hb:PR x x' fs i) (r:gI E fs ps x' y):gI E fs ((i,X)::ps) x y
end
end Go.Sim
namespace Go.Sim
open Go
section
variable {P:Program} {ops:Array Oper} {Q:Exit→Act→World→Prop} {rest:List Oper} {F0:Fz} {n:Nat} {E:List (Nat×SV)} {L:List bM}
variable {d:Nat} {op:Op} {ty:TypeId} {pos:String} {aft:Array Edge} {s:SV}
theorem CU:∀(vs:List Value) (j o:Nat) (cells:Array Value),o+j+vs.length≤cells.size→(vs.zipIdx j).foldl (λcs p=>cs.setIfInBounds (o+p.2) p.1) cells=(cells.toList.take (o+j)++vs++cells.toList.drop (o+j+vs.length)).toArray|[],j,o,cells,h=>by simp|v::vs,j,o,cells,h=>by simp only[List.zipIdx_cons,JK];simp only[IN] at h;rw[CU vs (j+1) o _ (by simp;omega)];congr 1;(have a:o+j<cells.size:=by omega);simp only[Array.toList_setIfInBounds,IN];(have e1:(cells.toList.set (o+j) v).take (o+(j+1))=cells.toList.take (o+j)++[v]:=by rw[J6,Jm (by simpa using a)];rw[show o+(j+1)=(cells.toList.take (o+j)).length+1 by simp;omega,Lk];simp);(have e2:(cells.toList.set (o+j) v).drop (o+(j+1)+vs.length)=cells.toList.drop (o+j+(vs.length+1)):=by rw[List.drop_set_of_lt (by omega)];congr 1;omega);rw[e1,e2];simp
theorem CV {place:Nat→Option (Nat×Nat)} {i o m:Nat} {cells:Array Value} {v:Value} {rest:List (Nat×Value)} (hp:place i=some (o,m)) (hv:v.cells.size=m) (hle:o+m≤cells.size):Instr.fill place cells ((i,v)::rest)=Instr.fill place (cells.toList.take o++v.cells.toList++cells.toList.drop (o+m)).toArray rest:=by unfold Instr.fill;simp only[hp];rw[Jf (by simp[hv];omega)];have h:=CU v.cells.toList 0 o cells (by simp;omega);simp only[KK,JP,hv] at h;rw[←h];(have:(v.cells.zipIdx.foldl (λcs (x:Value×Nat)=>match x with|(c,j)=>cs.setIfInBounds (o+j) c) cells)=(v.cells.toList.zipIdx 0).foldl (λcs p=>cs.setIfInBounds (o+p.2) p.1) cells:=by rw[←Array.foldl_toList,Array.toList_zipIdx]);rw[this];cases rest<;>rfl
theorem GI {β:Type} {fs:List (kJ β)} {place:Nat→Option (Nat×Nat)} (hp:∀i f,fs[i]? =some f→place i=some (dH fs i,f.K.n)) {F:Fz} {a:Act} (hE:Env F a n E):∀{ps:List (Nat×Operand)} {x y:β} {cells:Array Value},gI E fs ps x y→xH F fs cells.toList x→∃r,Instr.fill place cells (ps.map λp=>(p.1,a.eval p.2))=some r∧xH F fs r.toList y:=by intro ps x y cells hb;induction hb generalizing cells with|nil x=>intro h;exact⟨cells,by simp[Instr.fill],h⟩|@cons i X ps x x' y f s hf hX hr hb r ih=>intro h;have hv:=hr F _ (hE.eval hX);have hle:=(xH.get h hf).1;rw[IU,CV (hp i f hf) hv.sizeEq (by simpa using hle)];exact ih (by simpa using xH.set h hf hv.rd (PR.spec hb))
structure BT {β:Type} (P:Program) (T:TypeId) (fs:List (kJ β)) (z:β):Prop where
 out:∃it zv ff pl,P.info? T=some it∧it.zero=some zv∧P.underlying T=some (.struct ff)∧ff.toList.mapM (λf=>(P.info? f.type).map λi=>(f.offset,i.size))=some pl∧
  (∀i f,fs[i]? =some f→pl[i]? =some (dH fs i,f.K.n))∧∀F,xH F fs zv.cells.toList z
theorem Mq {β:Type} {fs:List (kJ β)} {T:TypeId} {ps:List (Nat×Operand)} {z y:β} (hT:BT P T fs z) (hb:gI E fs ps z y):gT P n E L ⟨some d,.build T ps.toArray,ty,pos,aft,none⟩ (.val (pH fs) y):=MU λF a hE=>by obtain⟨it,zv,ff,pl,h1,h2,h3,h4,h5,h6⟩:=hT.out;obtain⟨r,hr,hrd⟩:=GI (place:=λi=>pl.toArray[i]?) (λi f hf=>by simpa using h5 i f hf) hE hb (h6 F);refine⟨.agg r,by simp only[SV.ok];exact⟨r.toList,hrd,by simp[zG,pH]⟩,λw=>?_⟩;(have b:P.built T (ps.map λp=>(p.1,a.eval p.2))=some r:=by unfold Program.built;simp only[h1,h3,h2,h4];exact hr);have:=run_build (P:=P) w T (ps.map λp=>(p.1,a.eval p.2)).toArray r (by simpa using b);simp only[execOp,JR,this,IC,Iv,IJ]
inductive c7 {α:Type} (E:List (Nat×SV)) (K:Kd α):List (Nat×Operand)→List α→List α→Prop where
 |nil (xs:List α):c7 E K [] xs xs
 |cons {i:Nat} {X:Operand} {ps:List (Nat×Operand)} {xs ys:List α} {y:α} {s:SV} (hi:Nat.blt i xs.length=true) (hX:ev E X=some s) (hr:il s K y) (r:c7 E K ps (xs.set i y) ys):c7 E K ((i,X)::ps) xs ys
theorem vX {α:Type} {K:Kd α} {F:Fz} {a:Act} (hE:Env F a n E):∀{ps:List (Nat×Operand)} {xs ys:List α} {cells:Array Value},c7 E K ps xs ys→cj K F cells.toList xs→∃r,Instr.fill (λi=>some (i*K.n,K.n)) cells (ps.map λp=>(p.1,a.eval p.2))=some r∧cj K F r.toList ys:=by intro ps xs ys cells hb;induction hb generalizing cells with|nil x=>intro h;exact⟨cells,by simp[Instr.fill],h⟩|@cons i X ps xs ys y s hi hX hr r ih=>intro h;(have hi':i<xs.length:=by simpa[Kg] using hi);have hv:=hr F _ (hE.eval hX);have hl:=h.len;have h1:(i+1)*K.n≤xs.length*K.n:=Iz _ (by omega);rw[Jk] at h1;(have hle:i*K.n+K.n≤cells.size:=by simp only[JP] at hl;omega);rw[IU,CV rfl hv.sizeEq hle];exact ih (by simpa using h.set hi' hv.rd)
theorem c7.len {xs ys:List α} (h:c7 E K ps xs ys):ys.length=xs.length:=by induction h with|nil=>rfl|cons hi hX hr r ih=>simpa using ih
structure UB {α:Type} (P:Program) (T:TypeId) (m:Nat) (K:Kd α) (z:List α):Prop where
 out:∃it zv e ie,P.info? T=some it∧it.zero=some zv∧P.underlying T=some (.array m e)∧P.info? e=some ie∧ie.size=K.n∧z.length=m∧∀F,cj K F zv.cells.toList z
theorem Nk {ps:List (Nat×Operand)} (hT:UB P T m K z) (hb:c7 E K ps z ys):gT P n E L ⟨some d,.build T ps.toArray,ty,pos,aft,none⟩ (.val (bR m K) ys):=MU λF a hE=>by obtain⟨it,zv,e,ie,h1,h2,h3,h4,h5,h6,h7⟩:=hT.out;obtain⟨r,hr,hrd⟩:=vX hE hb (h7 F);refine⟨.agg r,by simp only[SV.ok];exact⟨r.toList,⟨by rw[hb.len,h6],hrd⟩,by simp[zG,bR]⟩,λw=>?_⟩;(have b:P.built T (ps.map λp=>(p.1,a.eval p.2))=some r:=by unfold Program.built;simp only[h1,h3,h2,h4,h5];exact hr);have:=run_build (P:=P) w T (ps.map λp=>(p.1,a.eval p.2)).toArray r (by simpa using b);simp only[execOp,JR,this,IC,Iv,IJ]
theorem qq {K:Kd α} (hz:K.rd F cs z):∀m,cj K F ((List.replicate m cs).flatten) (List.replicate m z)|0=>rfl|m+1=>by rw[JD,KI,JD];exact⟨cs,_,rfl,hz,qq hz m⟩
theorem wN (cs:List Value) (hc:0<cs.length):∀(m i:Nat),i<m*cs.length→((List.replicate m cs).flatten)[i]? =cs[i%cs.length]?|0,i,h=>by omega|m+1,i,h=>by rw[JD,KI,JI];rw[Jk] at h;split;rename_i h1;rw[Lv h1];rename_i h1;rw[wN cs hc m (i - cs.length) (by omega)];rw[←Nat.mod_eq_sub_mod (by omega)]
theorem CW (z:Array Value) (m:Nat) (hz:0<z.size):((Array.range (m*z.size)).map (z[· %z.size]!)).toList=(List.replicate m z.toList).flatten:=by apply KG;intro i;by_cases hi:i<m*z.size;rw[wN z.toList (by simpa using hz) m i (by simpa using hi)];have hm:i%z.size<z.size:=L2 _ hz;simp[hi,hm];rw[Jx (by simp;omega),Jx];(have:((List.replicate m z.toList).flatten).length=m*z.size:=by simp);omega
structure ET {α:Type} (P:Program) (e:TypeId) (K:Kd α) (z:α):Prop where
 out:∃ie zv,P.info? e=some ie∧ie.zero=some zv∧ie.size=K.n∧0<K.n∧∀F,K.rd F zv.cells.toList z
theorem GJ {K:Kd α} {ps:List (Nat×Operand)} (hT:P.underlying T=some (.slice e)) (he:ET P e K z) (hb:c7 E K ps (List.replicate m z) ys) (hm:Nat.ble (m*K.n) 16777216=true) {a:Act} (hE:Env F a n E) (w:World):∃cells:Array Value,(execOp a.eval (⟨some d,.buildSlice T m ps.toArray,ty,pos,aft,none⟩:Oper)).run P w= .ok (.value (.slice (some ⟨w.heap.size,0,none⟩) m m)) (w.alloc (.cells cells e))∧cj K F cells.toList ys:=by obtain⟨ie,zv,h1,h2,h3,h4,h5⟩:=he.out;(have f:zv.cells.size=K.n:=by have:=K.len (h5 F);simpa using this);(have g:(sizeOf e).run P w= .ok K.n w:=by simp[sizeOf,typeInfo,h1,h3]);(have b:¬m*K.n>2^24:=by have:=JV hm;omega);by_cases h:m=0;subst h;obtain⟨r,hr,hrd⟩:=vX (cells:=#[]) hE hb rfl;refine⟨r,?_,hrd⟩;(have hc:(Array.map (λx=>(default:Value)) (Array.range 0))=#[]:=by simp);simp[execOp,Instr.buildSlice,IE hT,g,newRow,hc,hr];(have c:¬m*K.n=0:=by have:0<m*K.n:=Nat.mul_pos (by omega) h4;omega);have hz:=CW zv.cells m (by omega);obtain⟨r,hr,hrd⟩:=vX (cells:=(Array.range (m*K.n)).map (zv.cells[· %zv.cells.size]!)) hE hb (by rw[←f,hz];exact qq (h5 F) m);refine⟨r,?_,hrd⟩;have:=run_buildSlice (P:=P) w T e m (ps.map λp=>(p.1,a.eval p.2)).toArray r ie zv hT h1 h2 (by rw[h3];exact b) (by rw[h3];exact c) (by rw[h3];simpa using hr);simp only[execOp,JR,this,IC,Iv,IJ]
theorem Ph {α:Type} {K:Kd α} {T e:TypeId} {z:α} {m:Nat} {ps:List (Nat×Operand)} {ys:List α} (hT:P.underlying T=some (.slice e)) (he:ET P e K z) (hb:c7 E K ps (List.replicate m z) ys) (hm:Nat.ble (m*K.n) 16777216=true) (hd:Nat.blt d n=true) (k:bl F0 n ((d,.val (cc K) ys)::E) L (wpList P g Q f)):bl F0 n E L (wpList P g Q (⟨some d,.buildSlice T m ps.toArray,ty,pos,aft,none⟩::f)):=ME rfl λF a w h0 hE hS=>by obtain⟨cells,hrun,c⟩:=GJ (d:=d) (ty:=ty) (pos:=pos) (aft:=aft) hT he hb hm hE w;(have hl:ys.length=m:=by simpa using hb.len);obtain⟨h,i⟩:=nL w (.cells cells e);obtain⟨b,hS'⟩:=OP hS (dv.one w.heap.size (.cells cells e)) (ms w _) h i;(have hc:cells.size=m*K.n:=by have:=c.len;rw[hl] at this;simpa using this);unfold Oper.wp;rw[hrun];refine k _ _ _ (Nj h0 b) ((hE.mono b).put hd ?_) hS';simp only[SV.ok];refine⟨[.slice (some ⟨w.heap.size,0,none⟩) m m],⟨some ⟨w.heap.size,0,none⟩,m,by rw[hl],by rw[hl];exact IL _,.inr ⟨⟨w.heap.size,0,none⟩,cells,e,(0,0),rfl,rfl,?_,by rw[hl];simp only;omega,?_⟩⟩,rfl⟩;simp only[Fz.add];rw[q8.fresh hS _ (IL _)];exact Mo _ _;rw[JX,ID (by rw[hl];simp;omega)];exact c.mono b
theorem Pi {K:Kd α} {ps:List (Nat×Operand)} {ys:List α} (hT:P.underlying T=some (.slice e)) (he:ET P e K z) (hb:c7 E K ps (List.replicate m z) ys) (hm:Nat.ble (m*K.n) 16777216=true) (hd:Nat.blt d n=true) (k:∀v,bl F0 n ((d,.raw v)::E) (.own K v e ys::L) (wpList P f Q c)):bl F0 n E L (wpList P f Q (⟨some d,.buildSlice T m ps.toArray,ty,pos,aft,none⟩::c)):=ME rfl λF a w h0 hE hS=>by obtain⟨cells,hrun,b⟩:=GJ (d:=d) (ty:=ty) (pos:=pos) (aft:=aft) hT he hb hm hE w;(have hl:ys.length=m:=by simpa using hb.len);obtain⟨g,h⟩:=nL w (.cells cells e);(have hc:cells.size=m*K.n:=by have:=b.len;rw[hl] at this;simpa using this);obtain⟨_,_,_,_,_,i,_⟩:=he.out;(have j:m≤maxLen:=by have h9:=JV hm;have:m*1≤m*K.n:=KJ _ i;simp only[maxLen];omega);have l:St F (w.alloc (.cells cells e)) (.own K (.slice (some ⟨w.heap.size,0,none⟩) m m) e ys::L):=NQ hS (dv.one w.heap.size (.cells cells e)) (.inr ⟨w.heap.size,m,cells,by rw[hl],rfl,by omega,j,hc,by rw[hl,ID (by simp;omega)];exact b⟩) (ms w _) g h;unfold Oper.wp;rw[hrun];exact k _ _ _ _ h0 (hE.put hd (by simp only[SV.ok])) l
end
end Go.Sim
namespace Go.Sim
open Go
section
variable {P:Program} {ops:Array Oper} {Q:Exit→Act→World→Prop} {rest:List Oper} {F0:Fz} {n:Nat} {E:List (Nat×SV)} {L:List bM}
variable {d:Nat} {op:Op} {ty:TypeId} {pos:String} {aft:Array Edge} {s:SV}
theorem bl.after {x:Code} (A:(Act→World→Prop)→Prop) (hk:A K) (h:∀K',A K'→bl F0 n E L (x.wp P (Exit.then K' Q))):bl F0 n E L (x.wp P (Exit.then K Q)):=h K hk
def Mk:=@bl.after
theorem bl.loop [Fu] {S R C:Type} {step:S→Option (tj S R)} {x0:S} {r:R} {c:Code} (c0:C) (Es:S→C→List (Nat×SV)) (Ls:S→C→List bM) (d:Loop.run step x0=some r) (hE:∀t v,look (Es x0 c0) t=some v→look E t=some v) (hL:L=Ls x0 c0) (b:∀x y o,step x=some o→(∀q,o= .done q→q=r)→bl F0 n (Es x y) (Ls x y) (c.wp P (Exit.then (λa w=>∃x' y' F,o= .next x'∧F0≤F∧Env F a n (Es x' y')∧St F w (Ls x' y')) Q))):bl F0 n E L ((Code.loop c).wp P Q):=λF a w h0 f hS=>by refine CT d (λx a w=>∃y F,F0≤F∧Env F a n (Es x y)∧St F w (Ls x y)) ⟨c0,F,h0,f.sub hE,hL▸hS⟩ ?_;intro x o a w ho hd ⟨y,F,h0,hE,hS⟩;refine wp_mono (b x y o ho hd F a w h0 hE hS) (λe a w q=>?_);cases e with|normal=>obtain⟨x',y',F,he,hh⟩:=q;exact⟨x',he,y',F,hh⟩|_=>exact q
theorem bl.next {S R C:Type} {o:tj S R} {Es:S→C→List (Nat×SV)} {Ls:S→C→List bM} (x':S) (y':C) (ho:(some (tj.next x'):Option (tj S R))=some o) (hE:∀t v,look (Es x' y') t=some v→look E t=some v) (hL:L=Ls x' y'):bl F0 n E L (λa w=>∃x' y' F,o= .next x'∧F0≤F∧Env F a n (Es x' y')∧St F w (Ls x' y')):=λF a w h0 b hS=>⟨x',y',F,(Option.some.inj ho).symm,h0,b.sub hE,hL▸hS⟩
def Nq:=@bl.next
theorem aG (ho:(some (tj.done q):Option (tj S R))=some o) (hd:∀q,o= .done q→q=r):q=r:=hd q (Option.some.inj ho).symm
theorem Oa (k:bl F0 n E L K):bl F0 n E L (Exit.then K Q .normal):=k
theorem Pw {id:Nat} (k:bl F0 n E L (Q (.exit id))):bl F0 n E L (Exit.then K Q (.exit id)):=k
theorem OQ (k:bl F0 n E L (Q .ret)):bl F0 n E L (Exit.then K Q .ret):=k
theorem Ob {id:Nat} (k:bl F0 n E L (Q .normal)):bl F0 n E L (Exit.inBlock id Q .normal):=k
theorem Ml {id:Nat} (k:bl F0 n E L (Q .ret)):bl F0 n E L (Exit.inBlock id Q .ret):=k
theorem Px {id:Nat} (k:bl F0 n E L (Q .normal)):bl F0 n E L (Exit.inBlock id Q (.exit id)):=λF a w h0 hE hS=>by show(if id=id then Q .normal a w else Q (.exit id) a w);rw[Jm rfl];exact k F a w h0 hE hS
theorem Py {id b:Nat} (h:Nat.beq b id=false) (k:bl F0 n E L (Q (.exit b))):bl F0 n E L (Exit.inBlock id Q (.exit b)):=λF a w h0 hE hS=>by show(if b=id then Q .normal a w else Q (.exit b) a w);rw[Jf (λe=>by subst e;simp at h)];exact k F a w h0 hE hS
theorem Oo (k:bl F0 n E (r1::r0::L) X):bl F0 n E (r0::r1::L) X:=bl.perm (List.Perm.swap _ _ _) k
theorem Oq (k:bl F0 n E (r2::r0::r1::L) X):bl F0 n E (r0::r1::r2::L) X:=bl.perm ((List.Perm.cons _ (List.Perm.swap _ _ _)).trans (List.Perm.swap _ _ _)) k
theorem Ot (k:bl F0 n E (r3::r0::r1::r2::L) X):bl F0 n E (r0::r1::r2::r3::L) X:=bl.perm ((List.Perm.cons _ ((List.Perm.cons _ (List.Perm.swap _ _ _)).trans (List.Perm.swap _ _ _))).trans (List.Perm.swap _ _ _)) k
theorem Ou (k:bl F0 n E (r4::r0::r1::r2::r3::L) X):bl F0 n E (r0::r1::r2::r3::r4::L) X:=bl.perm ((List.Perm.cons _ ((List.Perm.cons _ ((List.Perm.cons _ (List.Perm.swap _ _ _)).trans (List.Perm.swap _ _ _))).trans (List.Perm.swap _ _ _))).trans (List.Perm.swap _ _ _)) k
theorem o_ {x:Option α} (h:x.bind f=some r):∃a,x=some a∧f a=some r:=Jp.1 h
theorem RC (h:(bif c then x else none)=some r):c=true∧x=some r:=by cases c with|true=>exact⟨rfl,h⟩|false=>cases h
theorem c9 (hc:c=true) (h:(bif c then A else B)=some r):A=some r:=by subst hc;exact h
theorem cB (hc:c=false) (h:(bif c then A else B)=some r):B=some r:=by subst hc;exact h
theorem Pj (h:look E t=some (.raw (.bool c))) (kt:c=true→bl F0 n E L X) (kf:c=false→bl F0 n E L X):bl F0 n E L X:=by cases hc:c with|true=>exact kt hc|false=>exact kf hc
theorem Pk (hc:c=b) (hj:((a[j]?).bind (·.dst))=some g) (hb:look E g=some (.raw (.bool c))) (k:bl F0 n E L (wpList P a Q (⟨o,op,ty,pos,aft,none⟩::rest))):bl F0 n E L (wpList P a Q (⟨o,op,ty,pos,aft,some (j,b)⟩::rest)):=by subst hc;exact Pu hj hb k
theorem Pm (hc:c= !b) (hj:((ops[j]?).bind (·.dst))=some g) (hb:look E g=some (.raw (.bool c))) (hu:Nat.blt u n=true) (k:bl F0 n ((u,.raw undef)::E) L (wpList P ops Q rest)):bl F0 n E L (wpList P ops Q (⟨some u,op,ty,pos,aft,some (j,b)⟩::rest)):=by subst hc;exact bl.skip hj hb hu k
def wO (J Z E:List (Nat×SV)):Bool:=J.all λq=>(look Z q.1).isSome||(look E q.1).isNone
theorem sA (J E:List (Nat×SV)) (t:Nat):look (J++E) t=match look J t with|some s=>some s|none=>look E t:=by induction J with|nil=>rfl|cons q J ih=>obtain⟨k,v⟩:=q;simp only[JS,de];split<;>simp_all
theorem yS (h:wO J Z E=true) (hz:look Z t=none) (hs:look E t=some s):look J t=none:=by induction J with|nil=>rfl|cons q J ih=>obtain⟨k,v⟩:=q;simp only[wO,Mh,Ix,J5] at h;rw[de];split;rename_i hk;subst hk;rw[hs,hz] at h;simp at h;exact ih h.2
inductive vJ (E1:List (Nat×SV)):List (Nat×SV)→Prop where
 |nil:vJ E1 []
 |cons {t:Nat} {s s':SV} {Z:List (Nat×SV)} (h:look E1 t=some s') (e:s'=s) (r:vJ E1 Z):vJ E1 ((t,s)::Z)
theorem vJ.spec (h:vJ E1 Z):∀t s,look Z t=some s→look E1 t=some s:=by induction h with|nil=>intro t s h;cases h|cons h e r ih=>intro t s hl;rw[de] at hl;split at hl;rename_i hk;subst hk;cases hl;subst e;exact h;exact ih t s hl
theorem Hz (m:Nat) {E1:List (Nat×SV)} (hj:wO (E1.take m) Z (E1.drop m)=true) (hz:vJ E1 Z):∀t v,look (Z++E1.drop m) t=some v→look E1 t=some v:=by intro t v h;rw[sA] at h;split at h;rename_i s hs;cases h;exact hz.spec t _ hs;rename_i a;have:=yS hj a h;rw[←Jl m E1,sA,this];exact h
theorem Pn (m:Nat) {E1:List (Nat×SV)} (hz:vJ E1 Z) (hj:wO (E1.take m) Z (E1.drop m)=true) (k:bl F0 n (Z++E1.drop m) L X):bl F0 n E1 L X:=NZ (Hz m hj hz) k
theorem M5 (e:s'=s) (k:bl F0 n ((t,s)::E) L X):bl F0 n ((t,s')::E) L X:=e▸k
theorem H9 (hc:c=true):(c||e)=true:=by subst hc;rfl
theorem M6 (hj:((ops[j]?).bind (·.dst))=some g) (hb:look E g=some (.raw undef)) (hu:Nat.blt u n=true) (k:bl F0 n ((u,.raw undef)::E) L (wpList P ops Q rest)):bl F0 n E L (wpList P ops Q (⟨some u,op,ty,pos,aft,some (j,b)⟩::rest)):=λF a w h0 hE hS=>by obtain⟨v,hv,he⟩:=hE.at_ g _ hb;simp only[SV.ok] at he;subst he;(have hy:yielded ops a.tmps j=none:=by simp[yielded,hj,hv,undef]);unfold wpList;rw[Jf (by simp[Region.wanted,hy])];exact k _ _ _ h0 (hE.put hu (by simp only[SV.ok])) hS
theorem cJ (hc:c=true):SV.raw (.bool true)= .raw (.bool (c||e)):=by subst hc;rfl
theorem c5 (hc:c=false):SV.raw (.bool e)= .raw (.bool (c||e)):=by subst hc;rfl
theorem jO (hc:c=true):SV.raw (.bool e)= .raw (.bool (c&&e)):=by subst hc;rfl
theorem jP (hc:c=false):SV.raw (.bool false)= .raw (.bool (c&&e)):=by subst hc;rfl
theorem OY (k:bl F0 n E' L X) (hs:∀t v,look E' t=some v→look E t=some v):bl F0 n E L X:=NZ hs k
def bi (F:Fz) (n:Nat) (E:List (Nat×SV)) (X:Act→Prop):Prop:=∀a,Env F a n E→X a
theorem OZ {id:Nat} {l:List Oper} (hm:P.follows .mixedOrders=true) (hB:Region.lexB .any l.toArray=true) (k:∀F,F0≤F→bi F n E (wpQuiet P l.toArray (Cl F L) (λa=>∀w,Cl F L w→Q .normal a w) l)):bl F0 n E L ((Code.region id l.toArray true).wp P Q):=λF a w h0 hE hS=>wp_region_quiet (C:=Cl F L) hm hB ⟨F,NC F,q8.drew hS⟩ (by simpa using k F h0 a hE)
variable {F:Fz} {Qa:Act→Prop}
theorem O8 (h:gT P n E L ⟨some d,op,ty,pos,aft,none⟩ s) (hd:Nat.blt d n=true) (k:bi F n ((d,s)::E) (wpQuiet P c (Cl F L) Qa b)):bi F n E (wpQuiet P c (Cl F L) Qa (⟨some d,op,ty,pos,aft,none⟩::b)):=λa hE=>by obtain⟨v,hv,hw⟩:=h F a hE;unfold wpQuiet;rw[Jm (by simp[Region.wanted])];exact⟨v,hw,k _ (hE.put hd hv)⟩
theorem PM (hj:((c[j]?).bind (·.dst))=some g) (hb:look E g=some (.raw (.bool b))) (k:bi F n E (wpQuiet P c C Qa (⟨o,op,ty,pos,aft,none⟩::rest))):bi F n E (wpQuiet P c C Qa (⟨o,op,ty,pos,aft,some (j,b)⟩::rest)):=λa hE=>by have hk:=k a hE;obtain⟨v,hv,he⟩:=hE.at_ g _ hb;simp only[SV.ok] at he;subst he;(have hy:yielded c a.tmps j=some b:=by simp[yielded,hj,hv]);unfold wpQuiet at hk⊢;simp only[Region.wanted,LH,hy,KC] at hk⊢;exact hk
theorem bi.skip (hj:((ops[j]?).bind (·.dst))=some g) (hb:look E g=some (.raw (.bool (!b)))) (hu:Nat.blt u n=true) (k:bi F n ((u,.raw undef)::E) (wpQuiet P ops C Qa rest)):bi F n E (wpQuiet P ops C Qa (⟨some u,op,ty,pos,aft,some (j,b)⟩::rest)):=λa hE=>by obtain⟨v,hv,he⟩:=hE.at_ g _ hb;simp only[SV.ok] at he;subst he;(have hy:yielded ops a.tmps j=some (!b):=by simp[yielded,hj,hv]);unfold wpQuiet;rw[Jf (by simp[Region.wanted,hy])];exact k _ (hE.put hu (by simp only[SV.ok]))
theorem bi.nil {C:World→Prop} (h0:F0≤F) (k:bl F0 n E L (Q .normal)):bi F n E (wpQuiet P b C (λa=>∀w,Cl F L w→Q .normal a w) []):=λa hE w ⟨G,hg,hS⟩=>k G a w (Nj h0 hg) (hE.mono hg) hS
theorem PJ (h:look E t=some (.raw (.bool c))) (kt:c=true→bi F n E X) (kf:c=false→bi F n E X):bi F n E X:=by cases hc:c with|true=>exact kt hc|false=>exact kf hc
theorem PK (hc:c=b) (hj:((a[j]?).bind (·.dst))=some g) (hb:look E g=some (.raw (.bool c))) (k:bi F n E (wpQuiet P a C Qa (⟨o,op,ty,pos,aft,none⟩::rest))):bi F n E (wpQuiet P a C Qa (⟨o,op,ty,pos,aft,some (j,b)⟩::rest)):=by subst hc;exact PM hj hb k
theorem PL (hc:c= !b) (hj:((ops[j]?).bind (·.dst))=some g) (hb:look E g=some (.raw (.bool c))) (hu:Nat.blt u n=true) (k:bi F n ((u,.raw undef)::E) (wpQuiet P ops C Qa rest)):bi F n E (wpQuiet P ops C Qa (⟨some u,op,ty,pos,aft,some (j,b)⟩::rest)):=by subst hc;exact bi.skip hj hb hu k
theorem M7 (hj:((ops[j]?).bind (·.dst))=some g) (hb:look E g=some (.raw undef)) (hu:Nat.blt u n=true) (k:bi F n ((u,.raw undef)::E) (wpQuiet P ops C Qa rest)):bi F n E (wpQuiet P ops C Qa (⟨some u,op,ty,pos,aft,some (j,b)⟩::rest)):=λa hE=>by obtain⟨v,hv,he⟩:=hE.at_ g _ hb;simp only[SV.ok] at he;subst he;(have hy:yielded ops a.tmps j=none:=by simp[yielded,hj,hv,undef]);unfold wpQuiet;rw[Jf (by simp[Region.wanted,hy])];exact k _ (hE.put hu (by simp only[SV.ok]))
theorem Mn (k:bl F0 n E (.own K (.slice none 0 0) e []::L) X):bl F0 n E L X:=λF a w h0 hE hS=>by refine k F a w h0 hE ⟨dv.emp,.inl ⟨rfl,rfl,rfl⟩,λb hb=>absurd rfl hb,?_⟩;rw[Nm];exact hS
theorem O0 {α:Type} {K:Kd α} {v:Value} {e:TypeId} {xs:List α} {t:Nat} {X:Act→World→Prop} (ht:look E t=some (.raw v)) (k:bl F0 n ((t,.val (cc K) xs)::E) L X):bl F0 n E (.own K v e xs::L) X:=λF a w h0 hE hS=>by obtain⟨h,hh,hap,b,hS'⟩:=hS.freeze;refine k _ a w (Nj h0 b) ⟨hE.defers,hE.size,λu r hl=>?_⟩ hS';rw[de] at hl;split at hl;rename_i hk;subst hk;cases hl;obtain⟨v',h1,h2⟩:=hE.at_ t _ ht;simp only[SV.ok] at h2;subst h2;refine⟨_,h1,?_⟩;simp only[SV.ok];rcases hh with⟨rfl,rfl,_⟩|⟨g,cap,cur,rfl,rfl,h3,h4,h5,h6⟩;exact⟨[.slice none 0 0],⟨none,0,rfl,IL _,.inl rfl⟩,rfl⟩;refine⟨[.slice (some ⟨g,0,none⟩) xs.length cap],⟨_,cap,rfl,h3,.inr ⟨⟨g,0,none⟩,cur,e,(0,0),rfl,rfl,?_,?_,by simpa using h6⟩⟩,rfl⟩;have hg:F.blk g=none:=hap g (by rw[Mo];simp);simp only[Fz.add,hg];exact Mo _ _;have:xs.length*K.n≤cap*K.n:=Iz _ h3;simp only;omega;exact(hE.mono b).at_ u r hl
structure AT {α:Type} (P:Program) (e:TypeId) (K:Kd α) (z:α) (bytes:Nat):Prop where
 out:∃ie zv,P.info? e=some ie∧ie.zero=some zv∧ie.size=K.n∧ie.bytes=bytes∧0<K.n∧bytes≤4096∧∀F,K.rd F zv.cells.toList z
def dJ:Nat:=17179869184
def app {α:Type} (xs ys:List α):Option (List α):=if xs.length+ys.length≤dJ then some (xs++ys) else none
theorem yT {xs ys:List α} (h:app xs ys=some zs):xs.length+ys.length≤dJ∧zs=xs++ys:=by unfold app at h;split at h;exact⟨‹_›,(Option.some.inj h).symm⟩;cases h
theorem DM {K:Kd α} {bytes:Nat} {xs ys:List α} {w:World} (x:xs.length+ys.length≤dJ) (hT:P.underlying t=some (.slice e)) (he:AT P e K z bytes)
   (hh:(bM.own K v e xs).holds F h) (B:∀b o,h b=some o→w.heap[b]? =some o) {cap2:Nat} {c:List Value} (i:c.length=ys.length*K.n) (C:cj K F c ys) (I:∀u∈c,u.oneCell'=true)
   (A:ad=none→ys.length=0) (L:∀p,ad=some p→∀j u,c[j]? =some u→w.cell? (p.add j)=some u):
   ∃v' w' h',(Builtin.append_ #[t,t] ty #[v,.slice ad ys.length cap2]).run P w= .ok v' w'∧(bM.own K v' e (xs++ys)).holds F h'∧SR w w' h∧(∀b,h' b≠none→h b≠none∨w.heap.size≤b)∧(∀b o,h' b=some o→w'.heap[b]? =some o):=by
 obtain⟨ie,zv,h1,h2,h3,h4,h5,h6,h7⟩:=he.out
 have M:zv.cells.size=K.n:=by have:=K.len (h7 F);simpa using this
 have q:(xs.length+ys.length)*ie.bytes≤140737488355328:=by
   have:(xs.length+ys.length)*ie.bytes≤dJ*4096:=KW x (by omega)
   unfold dJ at this;omega
 have r:xs.length+ys.length≤maxLen:=by unfold dJ at x;simp only[maxLen];omega
 have N:xs.length+ys.length≤9223372036854775807:=by simp only[maxLen] at r;omega
 have f:(xs++ys).length=xs.length+ys.length:=by simp
 -- nothing is G
 by_cases hy:ys.length=0
 · have:ys=[]:=IS hy
   subst this
   have hn:c=[]:=IS (by simpa using i)
   subst hn
   refine⟨v,w,h,?_,by simpa using hh,⟨rfl,rfl,rfl,λ_ _ _=>rfl⟩,λb hb=> .inl hb,B⟩
   rcases hh with⟨rfl,rfl,_⟩|⟨g,cap,d,rfl,_,h8,_⟩
   · cases ad<;>simp[Builtin.append_,IE hT,sizeOf,typeInfo,h1,Builtin.lenOf,Builtin.firstCells,loadCells,loadCellsFrom]
   · cases ad<;>simp[Builtin.append_,IE hT,sizeOf,typeInfo,h1,Builtin.lenOf,Builtin.firstCells,loadCells,loadCellsFrom,h8,storeCells]
 · obtain⟨p,rfl⟩:∃p,ad=some p:=by
     cases ad with
     |none=>exact absurd (A rfl) hy
     |some p=>exact⟨p,rfl⟩
   have m:=L p rfl
   -- a R S
   have y:∀(l:Nat) (olds:List Value),cj K F olds xs→l<xs.length+ys.length→
       (bM.own K (.slice (some ⟨w.heap.size,0,none⟩) (xs.length+ys.length) (grownCap w (xs.length+ys.length) l e)) e (xs++ys)).holds F
         (dv.one w.heap.size (.cells (olds.toArray++c.toArray++Builtin.zeroCells zv.cells (grownCap w (xs.length+ys.length) l e - (xs.length+ys.length))) e (0,0))):=by
     intro l olds ho T
     have O:=grownCap_ge w (xs.length+ys.length) l e
     have Q:grownCap w (xs.length+ys.length) l e≤maxLen:=grownCap_le_maxLen w (xs.length+ys.length) l e r
     have D:=ho.len
     refine .inr ⟨w.heap.size,_,_,by rw[f],rfl,by rw[f];exact O,Q,?_,?_⟩
     · simp only[Array.size_append,J8,size_zeroCells,M,D,i,←Kc]
       congr 1;omega
     · rw[f]
       simp only[Array.toList_append]
       have e1:(olds++c).length=(xs.length+ys.length)*K.n:=by rw[Iu,D,i,Kc]
       rw[←e1,J3];exact ho.append C
   have alloc:∀(cells:Array Value),SR w (w.drew.alloc (.cells cells e)) h∧(∀b,dv.one w.heap.size (.cells cells e (0,0)) b≠none→h b≠none∨w.heap.size≤b)∧
       (∀b o,dv.one w.heap.size (.cells cells e (0,0)) b=some o→(w.drew.alloc (.cells cells e)).heap[b]? =some o):=by
     intro cells
     obtain⟨a1,a2⟩:=nL w (.cells cells e)
     exact⟨⟨rfl,rfl,rfl,λb hb _=>Lm w _ b hb⟩,λb hb=> .inr (a1 b hb),a2⟩
   rcases hh with⟨rfl,rfl,rfl⟩|⟨g,cap,d,rfl,rfl,a3,a4,a5,a6⟩
   · have hr:=run_append_nil (P:=P) w t ty e ie zv hT h1 h2 p ys.length cap2 c (by rw[h3];exact i) m (by omega) (by simp only[I7] at r;omega) (by have hb:=q;simp only[I7,IX] at hb;omega)
     have hf:=y 0 [] rfl (by simp;omega)
     simp only[I7,IX,Kp,IP] at hf⊢
     exact⟨_,_,_,hr,hf,alloc _⟩
   · have hg:=B g _ (Mo _ _)
     by_cases hr:xs.length+ys.length≤cap
     · have H:xs.length*ie.size+c.length≤d.size:=by rw[i,h3,a5,←Kc];exact Iz _ hr
       have s:=run_append_room (P:=P) w t ty e ie hT h1 g xs.length cap d hg p ys.length cap2 c (by rw[h3];exact i) m I hr H
       refine⟨_,_,dv.one g (.cells (d.toList.take (xs.length*ie.size)++c++d.toList.drop (xs.length*ie.size+c.length)).toArray e (0,0)),s,.inr ⟨g,cap,_,by rw[f],rfl,by rw[f];exact hr,a4,?_,?_⟩,
         ⟨rfl,rfl,rfl,λk _ hn=>setRow_other w g k _ (λe=>by rw[e,Mo] at hn;cases hn)⟩,λb hb=> .inl ?_,λb o e'=>?_⟩
       · simp only[J8,Iu,IM,IZ,JP]
         omega
       · rw[f]
         have e1:(d.toList.take (xs.length*ie.size)++c).length=(xs.length+ys.length)*K.n:=by
           rw[Iu,IM,i,h3,Kc]
           have:xs.length*K.n≤d.toList.length:=by simp only[JP,a5];exact Iz _ a3
           omega
         rw[←e1,J3,h3];exact a6.append C
       · by_cases E:b=g
         · subst E;rw[Mo];simp
         · exact absurd (MY _ E) hb
       · obtain⟨rfl,rfl⟩:=MT e';exact setRow_heap w b d _ e _ hg
     · have holds:∀j u,(d.toList.take (xs.length*K.n))[j]? =some u→w.cell? ((⟨g,0,none⟩:Addr).add j)=some u:=fun j u hu=>by
         have hj:j<xs.length*K.n:=by have:=(It.1 hu).1;rw[a6.len] at this;exact this
         rw[Je,IX,KX w g j d e (0,0) hg]
         rw[IT hj] at hu;simpa using hu
       have s:=run_append_grow (P:=P) w t ty e ie zv hT h1 h2 ⟨g,0,none⟩ xs.length cap (d.toList.take (xs.length*K.n)) (by rw[h3];exact a6.len) holds p ys.length cap2 c (by rw[h3];exact i) m (by omega) (by omega) (growslice_fits (by omega) q)
       have hf:=y cap _ a6 (by omega)
       exact⟨_,_,_,s,hf,alloc _⟩
theorem bl.app {K:Kd α} {bytes:Nat} {ys:List α} (hz:app xs ys=some zs) (hT:P.underlying t=some (.slice e)) (he:AT P e K z bytes) (hS:ev E S=some (.raw v)) (hV:ev E V=some s) (hr:il s (cc K) ys) (hd:Nat.blt d n=true) (k:∀v',bl F0 n ((d,.raw v')::E) (.own K v' e zs::L) (wpList P D Q C)):bl F0 n E (.own K v e xs::L) (wpList P D Q (⟨some d,.call ⟨.builtin .append,#[S,V],#[t,t]⟩,ty,pos,aft,none⟩::C)):=ME rfl λF a w h0 hE A=>by obtain⟨m,rfl⟩:=yT hz;have G:=hr F _ (hE.eval hV);obtain⟨cs,⟨ad,cap2,rfl,_,r⟩,g⟩:=G;have g:a.eval V= .slice ad ys.length cap2:=g;(obtain⟨f,H,I,M,y,N⟩:∃f:List Value,f.length=ys.length*K.n∧cj K F f ys∧(∀u∈f,u.oneCell'=true)∧(ad=none→ys.length=0)∧(∀p,ad=some p→∀j u,f[j]? =some u→w.cell? (p.add j)=some u):=by rcases r with h0|⟨p,c,e',fr,rfl,hp,hb,O,hrd⟩;have:ys=[]:=IS h0;subst this;exact⟨[],by simp,rfl,by simp,λ_=>rfl,λp _ j u hu=>by simp at hu⟩;refine⟨_,hrd.len,hrd,hrd.one,λh=>(by cases h),λq hq j u hu=>?_⟩;cases hq;(have hj:j<ys.length*K.n:=by have:=(It.1 hu).1;rw[hrd.len] at this;exact this);have B:=A.on.blk _ _ hb;obtain⟨pb,po,ps⟩:=p;simp only at hp hb O B;subst hp;rw[Je,KX w pb (po+j) c e' fr B];rw[IT hj,Jc] at hu;simpa using hu);obtain⟨f0,hh,i,l⟩:=A;have R:∀b o,f0 b=some o→w.heap[b]? =some o:=λb o e=>l.on.blk b o (by have:=i b (by simp[e]);simp[Fz.add,this,e]);obtain⟨v',w',h',r1,r2,r3,r4,r5⟩:=DM (P:=P) (ty:=ty) m hT he hh R H I M y N (cap2:=cap2);(have T:St F w' (.own K v' e (xs++ys)::L):=by refine⟨h',r2,λb hb=>?_,l.change i r3 r4 r5⟩;rcases r4 b hb with x|x;exact i b x;cases e:F.blk b with|none=>rfl|some o=>have:=gp (l.on.blk b o ((F.le_add f0).blk b o e));omega);unfold Oper.wp;simp only[execOp,resolve,invoke,builtin,IC,IJ,Iv,JR,IU,JT,hE.raw hS,g,r1,Oper.upon];exact k v' F _ _ h0 (hE.put hd (by simp only[SV.ok])) T
end
end Go.Sim
namespace Go.Sim
open Go
section
variable {P:Program} {ops:Array Oper} {Q:Exit→Act→World→Prop} {rest:List Oper} {F0:Fz} {n:Nat} {E:List (Nat×SV)} {L:List bM}
variable {d:Nat} {op:Op} {ty:TypeId} {pos:String} {aft:Array Edge} {s:SV}
theorem Po (h:look E t=some s') (hr:il s' K x) (k:bl F0 n ((t,.val K x)::E) L X):bl F0 n E L X:=λF a w h0 hE hS=>k F a w h0 ⟨hE.defers,hE.size,λu r e=>by rw[de] at e;split at e;rename_i hk;subst hk;cases e;obtain⟨v,h1,h2⟩:=hE.at_ t _ h;exact⟨v,h1,by simp only[SV.ok];exact hr F v h2⟩;exact hE.at_ u r e⟩ hS
theorem mY {K:Kd α} {v:Value} (h:K.val F v x) (ha:K.agg=true):v= .agg v.cells.toList.toArray∧K.rd F v.cells.toList x:=by have:=h.eq_pack;rw[ha] at this;exact⟨by simpa[zG] using this,h.rd⟩
theorem qr {K:Kd α} (hT:KT P T K) (cs:Array Value) (o:Nat) (c:o+K.n≤cs.size) (w:World):(part T cs o).run P w= .ok (zG K.agg ((cs.toList.drop o).take K.n)) w:=by cases ha:K.agg with|true=>have h1:=yR (P:=P) (by rw[hT.agg,ha]:Qo P T=some true) w;have h2:=dK hT.size w;simp only[part,IC,h1,Iv,LH,h2,IJ,zG];congr 2;apply Array.ext';simp[List.extract,List.take_drop]|false=>have h1:=yR (P:=P) (by rw[hT.agg,ha]:Qo P T=some false) w;have hn:=K.sole ha;(have a:o<cs.size:=by omega);(have b:((cs.toList.drop o).take K.n)=[cs[o]]:=by rw[hn,J1 (by simpa using a)];simp);simp only[part,IC,h1,Iv];simp[a,b,zG]
theorem O9 {K:Kd α} {xs:List α} {i:Int} (hx:idx xs i=some x) (hT:P.underlying T=some (.array m e)) (he:KT P e K) (hX:ev E X=some (.val (bR m K) xs)) (hI:ev E I=some (.raw (.int q i))):gT P n E L ⟨some d,.index T X I,ty,pos,aft,none⟩ (.val K x):=MU λF a hE=>by have:=hE.eval hX;simp only[SV.ok] at this;obtain⟨hv,hrd⟩:=mY this rfl;obtain⟨h0,h1,hx⟩:=kY hx;have hm:xs.length=m:=hrd.1;have b:=hrd.2.len;have h2:(i.toNat+1)*K.n≤xs.length*K.n:=Iz _ (by omega);rw[Jk] at h2;refine⟨_,by simp only[SV.ok];exact⟨_,hrd.2.get hx,rfl⟩,λw=>?_⟩;have hp:=qr he (a.eval X).cells.toList.toArray (i.toNat*K.n) (by simp only[J8,b];exact h2) w;rw[execOp];simp only[hE.raw hI];rw[hv];(have c:i<(m:Int):=by omega);simp[Instr.index,asIntOf,IE hT,h0,c,dK he.size] at hp⊢;simp[Value.cells] at hp⊢;rw[hp];rfl
theorem OR (hx:idx xs i=some x) (hT:P.underlying T=some (.array m e)) (he:KT P e (bD k)) (hX:ev E X=some (.val (bR m (bD k)) xs)) (hI:ev E I=some (.raw (.int q i))):gT P n E L ⟨some d,.index T X I,ty,pos,aft,none⟩ (.raw (.int k x)):=N8 (O9 hx hT he hX hI)
theorem gT.max2 (hX:ev E X=some (.raw (.int k x))) (hY:ev E Y=some (.raw (.int k y))):gT P n E L ⟨some d,.call ⟨.builtin .max,#[X,Y],#[t,u]⟩,ty,pos,aft,none⟩ (.raw (.int k (max x y))):=MR λF a hE w=>by(have e:(if y>x then y else x)=max x y:=by split<;>omega);simp[execOp,resolve,invoke,builtin,hE.raw hX,hE.raw hY,Builtin.max_,Builtin.max2] at e⊢;exact e
theorem gT.min2 (hX:ev E X=some (.raw (.int k x))) (hY:ev E Y=some (.raw (.int k y))):gT P n E L ⟨some d,.call ⟨.builtin .min,#[X,Y],#[t,u]⟩,ty,pos,aft,none⟩ (.raw (.int k (min x y))):=MR λF a hE w=>by(have e:(if y<x then y else x)=min x y:=by split<;>omega);simp[execOp,resolve,invoke,builtin,hE.raw hX,hE.raw hY,Builtin.min_,Builtin.min2] at e⊢;exact e
theorem GK {K:Kd α} (hT:KT P T K) {F:Fz} (hon:F.on w) (hp:PU F p K x):∃v,(loadVar T p).run P w= .ok v w∧K.val F v x:=by obtain⟨c,e,fr,hs,hb,hle,hr⟩:=hp.out;have:=nn hT hs (hon.blk _ _ hb) hle;exact⟨_,by simpa[Instr.loadAt,Instr.sureAddr] using this,⟨_,hr,rfl⟩⟩
end
end Go.Sim
namespace Go.Sim
open Go
structure E_ {α:Type} [BEq α] (P:Program) (T:TypeId) (K:Kd α) (dep:Nat):Prop where
 eq:∀{d F v u x y w},K.val F v x→K.val F u y→(Op.equalIn (d+dep) T v u).run P w= .ok (x==y) w
theorem E_.int {P:Program} (h:P.underlying T=some (.int k')):E_ P T (bD k) 1:=⟨λ{d F v u x y w} h1 h2=>by rw[ra] at h1 h2;subst h1;subst h2;exact run_equalIn_int w d T k k' x y h⟩
theorem E_.bool {P:Program} (h:P.underlying T=some .bool):E_ P T oi 1:=⟨λ{d F v u x y w} h1 h2=>by rw[yQ] at h1 h2;subst h1;subst h2;exact run_equalIn_bool w d T x y h⟩
theorem wP [BEq α] {P:Program} {K:Kd α} (he:E_ P e K f) (hk:KT P e K) (hc:P.cellsOf e=K.n) {cs ds:List Value}:∀{xs ys:List α} {is:List Nat} {j:Nat},xs.length=ys.length→is=List.range' j xs.length→cj K F (cs.drop (j*K.n)) xs→cj K F (ds.drop (j*K.n)) ys→(Op.eqItems (d+f) e (P.cellsOf e) cs.toArray ds.toArray is).run P w= .ok (xs==ys) w|[],[],is,j,_,hi,_,_=>by subst hi;simp[Op.eqItems]|x::xs,y::ys,is,j,hl,hi,hx,hy=>by subst hi;simp only[IN,List.range'_succ];obtain⟨c,c',e1,h1,r1⟩:=hx;obtain⟨q,q',e2,h2,r2⟩:=hy;have lc:=K.len h1;have lq:=K.len h2;(have a:j*K.n+K.n≤cs.length:=by rcases LK K.n with h0|h0;rw[h0];simp;have:=congrArg List.length e1;simp only[IZ,Iu] at this;omega);(have b:j*K.n+K.n≤ds.length:=by rcases LK K.n with h0|h0;rw[h0];simp;have:=congrArg List.length e2;simp only[IZ,Iu] at this;omega);have p1:=qr hk cs.toArray (j*K.n) (by simpa using a) w;have p2:=qr hk ds.toArray (j*K.n) (by simpa using b) w;(have t1:(cs.drop (j*K.n)).take K.n=c:=by rw[e1,←lc,J3]);(have t2:(ds.drop (j*K.n)).take K.n=q:=by rw[e2,←lq,J3]);simp only[t1,t2] at p1 p2;have hq:=he.eq (d:=d) (w:=w) ⟨c,h1,rfl⟩ ⟨q,h2,rfl⟩;(have d1:cs.drop ((j+1)*K.n)=c':=by rw[Jk,←Js,e1,←lc,LP]);(have d2:ds.drop ((j+1)*K.n)=q':=by rw[Jk,←Js,e2,←lq,LP]);have ih:=wP he hk hc (d:=d) (cs:=cs) (ds:=ds) (w:=w) (xs:=xs) (ys:=ys) (is:=List.range' (j+1) xs.length) (j:=j+1) (by simpa using hl) rfl (by rw[d1];exact r1) (by rw[d2];exact r2);rw[hc] at ih⊢;simp only[Op.eqItems,IC,p1,p2,hq,Iv];show _=Result.ok ((x==y)&&(xs==ys)) w;cases g:(x==y);simp;simp only[IQ,Kf,LB,JE];exact ih|[],_::_,_,_,hl,_,_,_=>by simp at hl|_::_,[],_,_,hl,_,_,_=>by simp at hl
theorem E_.arr [BEq α] {P:Program} {K:Kd α} (he:E_ P e K a) (hk:KT P e K) (hT:P.underlying T=some (.array m e)):E_ P T (bR m K) (a+1):=⟨λ{d F v u x y w} h1 h2=>by obtain⟨i,hi,hs⟩:=Jh.1 hk.size;(have hc:P.cellsOf e=K.n:=by simp[Program.cellsOf,hi,hs]);obtain⟨e1,r1⟩:=mY h1 rfl;obtain⟨e2,r2⟩:=mY h2 rfl;rw[e1,e2,show d+(a+1)=(d+a)+1 by omega,run_equalIn_array w (d+a) _ _ hT hi];exact wP he hk hc (j:=0) (by rw[r1.1,r2.1]) (by rw[r1.1,List.range_eq_range']) (by simpa using r1.2) (by simpa using r2.2)⟩
section
variable {P:Program} {ops:Array Oper} {Q:Exit→Act→World→Prop} {rest:List Oper} {F0:Fz} {n:Nat} {E:List (Nat×SV)} {L:List bM}
variable {d:Nat} {op:Op} {ty:TypeId} {pos:String} {aft:Array Edge} {s:SV}
theorem NX [BEq α] {K:Kd α} (he:E_ P T K b) (hg:P.eqGuardType P.depth T=false) (ha:K.agg=true) (c:Nat.ble b 10000=true) (hX:ev E X=some s1) (h1:il s1 K x) (hY:ev E Y=some s2) (h2:il s2 K y):gT P n E L ⟨some d,.binOp .eql T X Y u,ty,pos,aft,none⟩ (.raw (.bool (x==y))):=MR λF a hE w=>by have v1:=h1 F _ (hE.eval hX);have v2:=h2 F _ (hE.eval hY);have hq:=he.eq (d:=10000 - b) (w:=w) v1 v2;rw[show 10000 - b+b=10000 by have:=JV c;omega] at hq;obtain⟨e1,_⟩:=mY v1 ha;obtain⟨e2,_⟩:=mY v2 ha;rw[e1,e2] at hq;rw[execOp];simp only[];rw[e1,e2];simp only[eqGuard,IC,run_program,Iv,hg,run_eql_struct,hq];simp[hg,run_eql_struct,hq]
theorem NY [BEq α] {K:Kd α} (he:E_ P T K b) (hg:P.eqGuardType P.depth T=false) (ha:K.agg=true) (c:Nat.ble b 10000=true) (hX:ev E X=some s1) (h1:il s1 K x) (hY:ev E Y=some s2) (h2:il s2 K y):gT P n E L ⟨some d,.binOp .neq T X Y u,ty,pos,aft,none⟩ (.raw (.bool (x != y))):=MR λF a hE w=>by have v1:=h1 F _ (hE.eval hX);have v2:=h2 F _ (hE.eval hY);have hq:=he.eq (d:=10000 - b) (w:=w) v1 v2;rw[show 10000 - b+b=10000 by have:=JV c;omega] at hq;obtain⟨e1,_⟩:=mY v1 ha;obtain⟨e2,_⟩:=mY v2 ha;rw[e1,e2] at hq;rw[execOp];simp only[];rw[e1,e2];simp only[eqGuard,IC,run_program,Iv,hg,run_neq_struct,hq];simp[hg,run_neq_struct,hq,bne]
def pJ (l c:Int):Bool:=decide (0≤l)&&decide (l≤c)&&decide (c≤(dJ:Int))
theorem GL (h:pJ l c=true):0≤l∧l≤c∧c≤(dJ:Int):=by simp only[pJ,Ix,IB] at h;exact⟨h.1.1,h.1.2,h.2⟩
theorem yU {K:Kd α} {bytes:Nat} (hT:P.underlying T=some (.slice e)) (he:AT P e K z bytes) {l c:Int} (h0:0≤l) (h1:l≤c) (h2:c≤(dJ:Int)) (F:Fz) (w:World):∃cells:Array Value,(Instr.makeSlice T (.int k l) (.int k' c)).run P w= .ok (.slice (some ⟨w.heap.size,0,none⟩) l.toNat c.toNat) (w.alloc (.cells cells e))∧cj K F cells.toList (List.replicate c.toNat z):=by obtain⟨ie,zv,i1,i2,i3,i4,i5,i6,i7⟩:=he.out;(have hzs:zv.cells.size=K.n:=by have:=K.len (i7 F);simpa using this);have hr:(dJ:Int)=17179869184:=rfl;have e1:IntKind.i64.wrap l=l:=IntWalk.i64_in _ (by omega);have e2:IntKind.i64.wrap c=c:=IntWalk.i64_in _ (by omega);(have hb:(ie.bytes:Int)*c≤2^48:=by have:(ie.bytes:Int)*c≤4096*17179869184:=Int.mul_le_mul (by omega) (by omega) (by omega) (by omega);omega);refine⟨(Array.range (c.toNat*zv.cells.size)).map (zv.cells[· %zv.cells.size]!),?_,by rw[CW zv.cells c.toNat (by omega)];exact qq (i7 F) _⟩;(have g1:¬(c<0):=by omega);(have g2:¬((ie.bytes:Int)*c>2^48):=by omega);(have g3:¬(l<0):=by omega);(have g4:¬(l>c):=by omega);(have hsz:(sizeOf e).run P w= .ok K.n w:=by simp[sizeOf,typeInfo,i1,i3]);(have hbytes:c.toNat*ie.bytes≤roomBytes:=by have h9:(c.toNat*ie.bytes:Nat)≤17179869184*4096:=KW (by omega) (by omega);unfold roomBytes;omega);(have hask:(askRoom (c.toNat*ie.bytes)).run P w= .ok () w:=by simp[askRoom,Nat.not_lt.2 hbytes]);simp only[Instr.makeSlice,IC,IE hT,asInt,asIntOf,IJ,Iv,typeInfo,run_program,i1,e1,e2];rw[Jf (by simp only[g1,g2,g3,g4];simp)];simp only[IC,hask,hsz,Iv];by_cases hc0:c.toNat*K.n=0;(have hc1:c.toNat=0:=by rcases Nat.mul_eq_zero.1 hc0 with h|h;exact h;omega);rw[Jm hc0];(have hr0:∀f:Nat→Value,Array.map f (Array.range 0)=#[]:=λf=>by simp);simp[hc1,newRow,oa,hr0];rw[Jf hc0];have hz:=mX (P:=P) (T:=e) (v:=zv) (by rw[i1];exact i2) w;simp[hz,newRow,oa,hzs]
theorem bl.mk {K:Kd α} {bytes:Nat} {l c:Int} (h:pJ l c=true) (hT:P.underlying T=some (.slice e)) (he:AT P e K z bytes) (hL:ev E Ln=some (.raw (.int k l))) (hC:ev E C=some (.raw (.int k' c))) (hd:Nat.blt d n=true) (kk:∀v,bl F0 n ((d,.raw v)::E) (.own K v e (List.replicate l.toNat z)::L) (wpList P ops Q rest)):bl F0 n E L (wpList P ops Q (⟨some d,.makeSlice T Ln C,ty,pos,aft,none⟩::rest)):=ME rfl λF a w h0 hE hS=>by obtain⟨l0,l1,l2⟩:=GL h;obtain⟨cells,hrun,hrd⟩:=yU (P:=P) hT he l0 l1 l2 (k:=k) (k':=k') F w;obtain⟨hn1,hn2⟩:=nL w (.cells cells e);(have hc:cells.size=c.toNat*K.n:=by have:=hrd.len;simpa using this);have hr:(dJ:Int)=17179869184:=rfl;have hS':St F (w.alloc (.cells cells e)) (.own K (.slice (some ⟨w.heap.size,0,none⟩) l.toNat c.toNat) e (List.replicate l.toNat z)::L):=NQ hS (dv.one w.heap.size (.cells cells e)) (.inr ⟨w.heap.size,c.toNat,cells,by simp,rfl,by simp;omega,by simp only[maxLen];omega,hc,by have:=hrd.take l.toNat;simpa[List.take_replicate,Jq (by omega:l.toNat≤c.toNat)] using this⟩) (ms w _) hn1 hn2;unfold Oper.wp;simp only[execOp,hE.raw hL,hE.raw hC,IC,hrun,Iv,IJ,Oper.upon];exact kk _ _ _ _ h0 (hE.put hd (by simp only[SV.ok])) hS'
def MG:=@bl.mk
end
end Go.Sim
