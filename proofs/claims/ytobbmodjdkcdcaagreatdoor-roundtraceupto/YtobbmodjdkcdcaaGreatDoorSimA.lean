import Derived.Deep.MidRow
import Derived.WalkKit
import Derived.Deep.Quiet
import Derived.Great.BuildSlice
import Derived.KernelRfl
import Derived.ChangeKeysEq
import Derived.Laws.StructEq
import Derived.Laws.OwnMore
set_option linter.all false
set_option autoImplicit true
set_option relaxedAutoImplicit true
namespace Go.Sim
open Go
def FI:=@cond_false
def FJ:=@cond_true
def FK:=@decide_eq_true
def FL:=@decide_eq_false
def FM:=@List.length_append
def FN:=@List.getElem?_eq_some_iff
def FO:=@of_decide_eq_true
def FP:=@Int.toNat_natCast
def FQ:=@Result.andThen_ok
def FR:=@Option.bind_some
def FS:=@Nat.mul_le_mul_right
def FT:=@Bool.and_eq_true
def FU:=@Bool.or_eq_false_iff
def FV:=@Sem.run_bind
def FW:=@decide_eq_false_iff_not
def FX:=@decide_eq_true_eq
def FY:=@run_underlying
def FZ:=@List.take_of_length_le
def F1:=@List.take_succ_eq_append_getElem
def F2:=@List.length_cons
def F3:=@Sem.run_pure
def F4:=@bne_self_eq_false
def F5:=@of_decide_eq_false
def F6:=@List.append_assoc
def F7:=@List.getElem_mem
def F8:=@List.nil_append
def F9:=@Nat.le_refl
def Ga:=@List.length_take
def Gb:=@List.eq_nil_of_length_eq_zero
def Gc:=@List.getElem?_take_of_lt
def Gd:=@List.mem_append
def Ge:=@List.map_cons
def Gf:=@Nat.zero_add
def Gg:=@List.length_nil
def Gh:=@List.length_drop
def Gi:=@Nat.zero_le
def Gj:=@Array.getElem?_setIfInBounds_self_of_lt
def Gk:=@Bool.eq_iff_iff
def Gl:=@List.mem_cons
def Gm:=@List.take_length
def Gn:=@List.mem_of_getElem?
def Gp:=@Addr.add_mid
def Gq:=@List.getElem?_drop
def Gr:=@Bool.not_true
def Gs:=@Option.map_eq_some_iff
def Gt:=@if_neg
def Gu:=@List.mem_map
def Gv:=@List.mem_of_mem_take
def Gw:=@Option.bind_eq_some_iff
def Gx:=@Nat.succ_mul
def Gy:=@List.map_append
def Gz:=@if_pos
def GA:=@List.mem_singleton
def GC:=@List.flatMap_cons
def GD:=@List.foldl_append
def GE:=@Nat.min_eq_left
def GF:=@List.foldl_cons
def GG:=@Array.getElem?_setIfInBounds_ne
def GH:=@Go.MapKept.run_getObj_map
def GI:=@List.drop_drop
def GJ:=@List.take_append_drop
def GK:=@Nat.eq_of_beq_eq_true
def GL:=@List.mem_iff_getElem?
def GM:=@List.all_eq_true
def GN:=@List.getElem?_take
def GO:=@List.getElem?_range
def GP:=@List.getElem?_eq_getElem
def GQ:=@decide_true
def GR:=@Option.getD_some
def GS:=@List.getElem?_eq_none
def GT:=@Array.getElem?_eq_getElem
def GU:=@List.replicate_succ
def GV:=@Bool.true_and
def GW:=@List.getD_eq_getElem?_getD
def GX:=@BitVec.toNat_ofInt
def GY:=@List.mem_range
def GZ:=@Array.getElem?_toList
def G1:=@Array.length_toList
def G2:=@List.map_congr_left
def G3:=@List.ext_getElem
def G4:=@List.map_toArray
def G5:=@List.cons_append
def G6:=@List.getElem?_append
def G7:=@Nat.le_trans
def G8:=@Bool.not_eq_true'
def G9:=@List.drop_zero
def Ha:=@List.pairwise_cons
def Hb:=@Nat.le_of_ble_eq_true
def Hc:=@List.length_filter_le
def Hd:=@Bool.or_eq_true
def He:=@Go.MapKept.run_setObj_map
def Hf:=@List.drop_eq_getElem_cons
def Hg:=@List.mem_filter
def Hh:=@List.take_left
def Hi:=@List.set_eq_take_append_cons_drop
def Hj:=@beq_iff_eq
def Hk:=@List.size_toArray
def Hl:=@List.map_nil
def Hm:=@Nat.add_mul
def Hn:=@Bool.false_eq_true
def Ho:=@Array.getElem?_eq_some_iff
def Hp:=@Nat.blt_eq
def Hq:=@List.nodup_cons
def Hr:=@List.append_nil
def Hs:=@List.sublist_append_right
def Ht:=@List.getElem_of_mem
def Hu:=@List.nodup_append
def Hv:=@List.drop_append_of_le_length
def Hw:=@List.take_append_of_le_length
def Hx:=@List.range_succ
def Hy:=@Array.empty_append
def Hz:=@Nat.add_sub_cancel
def HA:=@Nat.xor_lt_two_pow
def HB:=@Bool.not_false
def HC:=@List.drop_eq_nil_of_le
def HD:=@decide_false
def HE:=@List.getElem_range
def HF:=@BitVec.xor_assoc
def HG:=@Bool.false_or
def HH:=@getD_set_true
def HI:=@List.sublist_append_left
def HJ:=@List.mem_of_mem_drop
def HK:=@List.take_zero
def HL:=@List.getElem?_map
def HM:=@List.ext_getElem?
def HN:=@List.length_map
def HO:=@Option.map_some
def HQ:=@Nat.add_zero
def HS:=@List.getElem_set
def HT:=@List.any_eq_true
def HU:=@List.getElem_map
def HV:=@List.perm_middle
def HW:=@List.take_take
def HX:=@List.drop_take
def HY:=@Array.getElem?_modify
def HZ:=@List.pairwise_iff_getElem
def H0:=@List.length_set
def H1:=@Int.natCast_mul
def H2:=@Bool.or_true
def H3:=@List.flatten_cons
def H4:=@Bool.or_false
def H5:=@List.take_add
def H6:=@List.filterMap_cons_some
def H7:=@List.replicate_zero
def H8:=@Option.getD_none
def H9:=@beq_self_eq_true
def Ia:=@Nat.shiftLeft_add_eq_or_of_lt
def Ib:=@cell_of_row
def Ic:=@List.mem_filterMap
def Ie:=@Array.append_empty
def If:=@BitVec.xor_comm
def Ig:=@List.length_replicate
def Ih:=@List.set_append_right
def Ii:=@BitVec.eq_of_toNat_eq
def Ij:=@List.drop_length_add_append
def Ik:=@Array.getD_eq_getD_getElem?
def Il:=@List.take_length_add_append
def Im:=@List.perm_ext_iff_of_nodup
def Io:=@List.foldl_nil
def Ip:=@Array.getElem?_append_left
def Iq:=@Go.RowKit.Below.heap_alloc
def Ir:=@getD_set_ne
def Is:=@Nat.sub_zero
def It:=@List.mem_flatMap
def Iu:=@Nat.sub_self
def Iv:=@Nat.mod_eq_of_lt
def Iw:=@List.mem_or_eq_of_mem_set
def Ix:=@List.filter_eq_self
def Iy:=@Array.toList_modify
def Iz:=@Nat.mul_le_mul_left
def IA:=@ByteArray.toList_eq
def IB:=@Nat.lt_irrefl
def IC:=@if_false
def ID:=@List.sum_cons
def IE:=@if_true
def IF:=@beq_false_of_ne
def IG:=@BitVec.zero_xor
def IH:=@Nat.eq_zero_or_pos
def II:=@UInt8.toNat_ofNat'
def IJ:=@List.filter_append
def IK:=@List.set_cons_zero
def IL:=@Nat.mul_le_mul
def IM:=@and_true
def IN:=@Array.toList_push
def IP:=@List.length_range
def IQ:=@List.pairwise_map
def IR:=@Bool.false_and
def IS:=@List.drop_left
def IT:=@List.Perm.append_left
def IU:=@List.modify_succ_cons
def IW:=@Bool.and_eq_false_iff
def IX:=@List.mem_append_right
def IY:=@List.getElem?_zipWith
def IZ:=@List.foldlM_cons
def I0:=@Nat.mod_lt
def I6:=@Nat.shiftLeft_eq
def I7:=@List.drop_length
def I8:=@List.filter_cons
def I9:=@List.mem_append_left
def Ja:=@Nat.pow_le_pow_right
def Jb:=@Array.toList_append
def Jc:=@List.drop_replicate
def Jd:=@List.length_pos_iff
def Je:=@run_firstCells_some
def Jf:=@List.filter_sublist
def Jg:=@getElem!_pos
def Jh:=@Nat.zero_mul
def Ji:=@Bool.true_or
def Jj:=@mem_ready
def Jk:=@List.mapM_cons
def Jl:=@List.nodup_nil
def Jm:=@Nat.mul_one
def Jn:=@List.all_cons
def Jo:=@Nat.add_assoc
def Ag:List (Nat×IntKind×List Int):=[(0,.u32,[1116352408,1899447441,3049323471,3921009573,961987163,1508970993,2453635748,2870763221,3624381080,310598401,607225278,1426881987,1925078388,2162078206,2614888103,3248222580,3835390401,4022224774,264347078,604807628,770255983,1249150122,1555081692,1996064986,2554220882,2821834349,2952996808,3210313671,3336571891,3584528711,113926993,338241895,666307205,773529912,1294757372,1396182291,1695183700,1986661051,2177026350,2456956037,2730485921,2820302411,3259730800,3345764771,3516065817,3600352804,4094571909,275423344,430227734,506948616,659060556,883997877,958139571,1322822218,1537002063,1747873779,1955562222,2024104815,2227730452,2361852424,2428436474,2756734187,3204031479,3329325298])]
def Ah (g:Nat):List (Nat×IntKind×List Int)→Option (IntKind×List Int)|[]=>none|x::r=>cond (Nat.beq x.1 g) (some x.2) (Ah g r)
class yn (heap:Nat→Option Obj):Prop where
 on:∀g k xs,Ah g Ag=some (k,xs)→∃T fr,heap g=some (.cells (xs.map (Value.int k ·)).toArray T fr)
theorem M7 (h:Ag=[]) (heap:Nat→Option Obj):yn heap:=⟨λg k xs e=>by rw[h] at e;cases e⟩
end Go.Sim
namespace Go.Sim
open Go
structure Fz where
 blk:Nat→Option Obj
 os:Os
 tape:Nat→Question→Nat
 output:Array (Nat×ByteArray)
 glob:yn blk
structure Fz.le (F G:Fz):Prop where
 blk:∀b o,F.blk b=some o→G.blk b=some o
 os:G.os=F.os
 tape:G.tape=F.tape
 output:G.output=F.output
structure Fz.on (F:Fz) (w:World):Prop where
 blk:∀b o,F.blk b=some o→w.heap[b]? =some o
 os:w.os=F.os
 tape:w.tape=F.tape
 output:w.output=F.output
instance:LE Fz:=⟨Fz.le⟩
theorem KF (F:Fz):F≤F:=⟨λ_ _ h=>h,rfl,rfl,rfl⟩
theorem Ki {F G H:Fz} (h:F≤G) (k:G≤H):F≤H:=⟨λb o e=>k.blk b o (h.blk b o e),k.os.trans h.os,k.tape.trans h.tape,k.output.trans h.output⟩
abbrev Frag:=Nat→Option Obj
def Frag.emp:Frag:=λ_=>none
def Frag.one (b:Nat) (o:Obj):Frag:=λk=>if k=b then some o else none
theorem Ju (b:Nat) (o:Obj):Frag.one b o b=some o:=by simp[Frag.one]
theorem JZ (o:Obj) (h:k≠b):Frag.one b o k=none:=by simp[Frag.one,h]
theorem JT (h:Frag.one b o k=some q):k=b∧q=o:=by unfold Frag.one at h;split at h;exact⟨‹_›,(Option.some.inj h).symm⟩;cases h
def Fz.add (F:Fz) (h:Frag):Fz:={F with blk:=λb=>match F.blk b with|some o=>some o|none=>h b,glob:=⟨λg k xs e=>by obtain⟨T,fr,q⟩:=F.glob.on g k xs e;exact⟨T,fr,by simp[q]⟩⟩}
theorem Fz.le_add (F:Fz) (h:Frag):F≤F.add h:=⟨λb o e=>by simp[Fz.add,e],rfl,rfl,rfl⟩
theorem Kq (F:Fz):F.add Frag.emp=F:=by cases F;simp only[Fz.add,Frag.emp,Fz.mk.injEq,IM];funext b;split<;>simp_all
theorem L2 {F:Fz} (e:(F.add h).blk b=some o):F.blk b=some o∨(F.blk b=none∧h b=some o):=by simp only[Fz.add] at e;split at e;rename_i q hq;exact .inl (by rw[hq];exact e);rename_i hq;exact .inr ⟨hq,e⟩
theorem Kf {F:Fz}:(F.add h).blk b=none↔F.blk b=none∧h b=none:=by simp only[Fz.add];split<;>simp_all
def Apart (F:Fz) (h:Frag):Prop:=∀b,h b≠none→F.blk b=none
theorem km {F:Fz} (hk:∀b,k b≠none→h b=none):(F.add h).add k=(F.add k).add h:=by simp only[Fz.add,Fz.mk.injEq,IM];funext b;cases hF:F.blk b<;>simp only[];cases hh:h b with|none=>cases hk':k b<;>simp|some o=>cases hk':k b with|none=>simp|some q=>have:=hk b (by simp[hk']);simp[hh] at this
inductive Ctl (S R:Type) where
 |next (s:S)
 |done (r:R)
def Loop.iter {S R:Type} (step:S→Option (Ctl S R)):Nat→S→Option R|0,_=>none|k+1,s=>match step s with|none=>none|some (.done r)=>some r|some (.next s')=>Loop.iter step k s'
theorem KL {S R:Type} {step:S→Option (Ctl S R)}:∀(k:Nat) (s:S) (r:R),Loop.iter step k s=some r→Loop.iter step (k+1) s=some r|0,_,_,h=>by cases h|k+1,s,r,h=>by rw[Loop.iter] at h⊢;split at h;cases h;exact h;exact KL k _ r h
theorem KE {S R:Type} {step:S→Option (Ctl S R)} {k:Nat} {s:S} {r:R} (h:Loop.iter step k s=some r):∀m,Loop.iter step (k+m) s=some r|0=>h|m+1=>KL (k+m) s r (KE h m)
theorem LC {S R:Type} {step:S→Option (Ctl S R)} {k m:Nat} {s:S} {r q:R} (h:Loop.iter step k s=some r) (h':Loop.iter step m s=some q):r=q:=by have a:=KE h m;have b:=KE h' k;rw[Nat.add_comm] at b;exact Option.some.inj (a.symm.trans b)
open Classical in
noncomputable def Loop.runC {S R:Type} (step:S→Option (Ctl S R)) (s:S):Option R:=if h:∃r k,Loop.iter step k s=some r then some h.choose else none
theorem KC {S R:Type} {step:S→Option (Ctl S R)} {k:Nat} {s:S} {r:R} (h:Loop.iter step k s=some r):Loop.runC step s=some r:=by have hx:∃r k,Loop.iter step k s=some r:=⟨r,k,h⟩;unfold Loop.runC;rw[dif_pos hx];obtain⟨m,hm⟩:=hx.choose_spec;rw[LC hm h]
noncomputable def Loop.runN {S R:Type} (n:Nat) (step:S→Option (Ctl S R)) (s:S):Option R:=match Loop.iter step n s with|some r=>some r|none=>Loop.runC step s
theorem KH {S R:Type} (n:Nat) (step:S→Option (Ctl S R)) (s:S):Loop.runN n step s=Loop.runC step s:=by
 unfold Loop.runN
 cases e:Loop.iter step n s with
 |some q=>exact(KC e).symm
 |none=>rfl
class Fu where
 n:Quot (λ_ _:Nat=>True)
theorem Fu.one (a b:Fu):a=b:=by obtain⟨a⟩:=a;obtain⟨b⟩:=b;congr 1;induction a using Quot.ind;induction b using Quot.ind;exact Quot.sound trivial
abbrev Fu.of (n:Nat):Fu:=⟨Quot.mk _ n⟩
noncomputable def Loop.run [f:Fu] {S R:Type} (step:S→Option (Ctl S R)) (s:S):Option R:=Quot.lift (λn=>Loop.runN n step s) (λa b _=>(KH a step s).trans (KH b step s).symm) f.n
theorem La [f:Fu] (step:S→Option (Ctl S R)) (s:S):Loop.run step s=Loop.runC step s:=by obtain⟨n⟩:=f;induction n using Quot.ind;exact KH _ step s
theorem Ks [Fu] {S R:Type} {step:S→Option (Ctl S R)} {k:Nat} {s:S} {r:R} (h:Loop.iter step k s=some r):Loop.run step s=some r:=by rw[La];exact KC h
theorem Kt [Fu] {S R:Type} {step:S→Option (Ctl S R)} {s:S} {r:R} (h:Loop.run step s=some r):∃k,Loop.iter step k s=some r:=by rw[La] at h;unfold Loop.runC at h;split at h;rename_i hx;obtain⟨m,hm⟩:=hx.choose_spec;rw[Option.some.inj h] at hm;exact⟨m,hm⟩;cases h
variable [Fu]
theorem Jv {S R:Type} {step:S→Option (Ctl S R)} {s:S} {r:R} (h:step s=some (.done r)):Loop.run step s=some r:=
 Ks (k:=1) (by simp[Loop.iter,h])
theorem JB {S R:Type} {step:S→Option (Ctl S R)} {s s':S} (h:step s=some (.next s')):Loop.run step s=Loop.run step s':=by
 cases e:Loop.run step s' with
 |some r=>
  obtain⟨k,hk⟩:=Kt e
  exact Ks (k:=k+1) (by simp[Loop.iter,h,hk])
 |none=>
  cases e':Loop.run step s with
  |none=>rfl
  |some r=>
   obtain⟨k,hk⟩:=Kt e'
   cases k with
   |zero=>cases hk
   |succ k=>
    simp only[Loop.iter,h] at hk
    rw[Ks hk] at e;cases e
theorem Ai {P:Program} {S R:Type} {step:S→Option (Ctl S R)} {s0:S} {r:R} (hrun:Loop.run step s0=some r) (I:S→Act→World→Prop) {c:Code}
  {Q:Exit→Act→World→Prop} {a:Act} {w:World} (h0:I s0 a w)
  (round:∀s o a w,step s=some o→(∀q,o= .done q→q=r)→I s a w→c.wp P (Exit.then (λa' w'=>∃s',o= .next s'∧I s' a' w') Q) a w):(Code.loop c).wp P Q a w:=by
 obtain⟨k,hk⟩:=Kt hrun
 intro b kk cs
 have key:∀k s a w,Loop.iter step k s=some r→I s a w→
   ∃e a' w',Q e a' w'∧Arrives P (lone (b.at a (.code c:: .inLoop c::kk)) cs w) b kk cs e a' w':=by
  intro k
  induction k with
  |zero=>intro s a w h _;cases h
  |succ k ih=>
   intro s a w h hI
   rw[Loop.iter] at h
   have hr:∃o,step s=some o∧(∀q,o= .done q→q=r)∧(∀s',o= .next s'→Loop.iter step k s'=some r):=by
    split at h
    · cases h
    · rename_i q hq;exact⟨_,hq,λq' e=>by cases e;exact Option.some.inj h,λs' e=>by cases e⟩
    · rename_i s' hq;exact⟨_,hq,λq' e=>(by cases e),λs'' e=>by cases e;exact h⟩
   obtain⟨o,ho,hd,hn⟩:=hr
   obtain⟨e,a₁,w₁,hq,harr⟩:=round s o a w ho hd hI b (.inLoop c::kk) cs
   cases e with
   |normal=>
    obtain⟨s',he,hI₁⟩:=hq
    obtain⟨e₂,a₂,w₂,hq₂,harr₂⟩:=ih s' a₁ w₁ (hn s' he) hI₁
    exact⟨e₂,a₂,w₂,hq₂,.of_steps (Steps.trans harr (.one step_inLoop)) harr₂⟩
   |exit id=>exact⟨_,a₁,w₁,hq,.pass (x:= .inLoop c) rfl (λ_ _=> .inl (by simp)) harr⟩
   |goto l=>exact⟨_,a₁,w₁,hq,.pass (x:= .inLoop c) rfl (λ_ _=> .inl (by simp)) harr⟩
   |ret=>exact⟨_,a₁,w₁,hq,.pass (x:= .inLoop c) rfl (λ_ _=> .inl (by simp)) harr⟩
   |panic ch=>exact⟨_,a₁,w₁,hq,.pass (x:= .inLoop c) rfl (λ_ _=> .inl (by simp)) harr⟩
   |outgrown=>exact⟨_,a₁,w₁,hq,.pass (x:= .inLoop c) rfl (λ_ _=> .inl (by simp)) harr⟩
 obtain⟨e,a',w',hq,harr⟩:=key k s0 a w hk h0
 exact⟨e,a',w',hq,.of_steps (.one step_loop) harr⟩
end Go.Sim
namespace Go.Sim
open Go
structure Kd (α:Type) where
 n:Nat
 agg:Bool
 rd:Fz→List Value→α→Prop
 len:∀{F cs x},rd F cs x→cs.length=n
 mono:∀{F G cs x},F≤G→rd F cs x→rd G cs x
 one:∀{F cs x},rd F cs x→∀v∈cs,v.oneCell'=true
 sole:agg=false→n=1
def pack (agg:Bool) (cs:List Value):Value:=if agg then .agg cs.toArray else cs.headD undef
def Kd.val {α:Type} (K:Kd α) (F:Fz) (v:Value) (x:α):Prop:=∃cs,K.rd F cs x∧v=pack K.agg cs
theorem Kd.val.mono {K:Kd α} (h:K.val F v x) (hg:F≤G):K.val G v x:=let ⟨cs,a,b⟩:=h;⟨cs,K.mono hg a,b⟩
theorem vk {K:Kd α} {cs:List Value} (h:K.rd F cs x):(pack K.agg cs).cells=cs.toArray:=by unfold pack;cases ha:K.agg with|true=>simp[Value.cells]|false=>have hl:=K.len h;rw[K.sole ha] at hl;match cs,hl with|[c],_=>have:=K.one h c (by simp);simp only[List.headD_cons,Hn,IC];cases c<;>first|rfl|simp[Value.oneCell'] at this
theorem Kd.val.rd {K:Kd α} {v:Value} (h:K.val F v x):K.rd F v.cells.toList x:=by obtain⟨cs,a,rfl⟩:=h;rw[vk a];simpa using a
theorem Kd.val.eq_pack {K:Kd α} {v:Value} (h:K.val F v x):v=pack K.agg v.cells.toList:=by obtain⟨cs,a,rfl⟩:=h;rw[vk a]
theorem Kd.val.sizeEq {K:Kd α} {v:Value} (h:K.val F v x):v.cells.size=K.n:=by have:=K.len h.rd;simpa using this
def kInt (k:IntKind):Kd Int where
 n:=1
 agg:=false
 rd:=λ_ cs x=>cs=[.int k x]
 len:=λh=>by subst h;rfl
 mono:=λ_ h=>h
 one:=λh v hv=>by subst h;simp at hv;subst hv;rfl
 sole:=λ_=>rfl
def mN:Kd Bool where
 n:=1
 agg:=false
 rd:=λ_ cs x=>cs=[.bool x]
 len:=λh=>by subst h;rfl
 mono:=λ_ h=>h
 one:=λh v hv=>by subst h;simp at hv;subst hv;rfl
 sole:=λ_=>rfl
def kStr:Kd (List Int) where
 n:=1
 agg:=false
 rd:=λ_ cs x=>∃s:ByteArray,cs=[.string s]∧x=s.data.toList.map (λb=>(b.toNat:Int))
 len:=λ⟨_,h,_⟩=>by subst h;rfl
 mono:=λ_ h=>h
 one:=λ⟨_,h,_⟩ v hv=>by subst h;simp at hv;subst hv;rfl
 sole:=λ_=>rfl
theorem lN:(kInt k).val F v x↔v= .int k x:=⟨λ⟨cs,h,e⟩=>by cases h;exact e,λh=>⟨[.int k x],rfl,h⟩⟩
theorem vl:mN.val F v x↔v= .bool x:=⟨λ⟨cs,h,e⟩=>by cases h;exact e,λh=>⟨[.bool x],rfl,h⟩⟩
def bi {α:Type} (K:Kd α) (F:Fz):List Value→List α→Prop|cs,[]=>cs=[]|cs,x::xs=>∃c d,cs=c++d∧K.rd F c x∧bi K F d xs
section
variable {α:Type} {K:Kd α} {F G:Fz}
theorem bi.len:∀{xs:List α} {cs:List Value},bi K F cs xs→cs.length=xs.length*K.n|[],cs,h=>by cases h;simp|x::xs,cs,⟨c,d,e,h,r⟩=>by subst e;rw[FM,K.len h,bi.len r,F2,Gx];omega
theorem bi.mono (hg:F≤G):∀{xs:List α} {cs:List Value},bi K F cs xs→bi K G cs xs|[],cs,h=>h|x::xs,cs,⟨c,d,e,h,r⟩=>⟨c,d,e,K.mono hg h,bi.mono hg r⟩
theorem bi.one:∀{xs:List α} {cs:List Value},bi K F cs xs→∀v∈cs,v.oneCell'=true|[],cs,h,v,hv=>by cases h;cases hv|x::xs,cs,⟨c,d,e,h,r⟩,v,hv=>by subst e;rcases Gd.1 hv with hv|hv;exact K.one h v hv;exact bi.one r v hv
theorem bi.append:∀{xs:List α} {cs ds:List Value} {ys:List α},bi K F cs xs→bi K F ds ys→bi K F (cs++ds) (xs++ys)|[],cs,ds,ys,h,k=>by cases h;simpa using k|x::xs,cs,ds,ys,⟨c,d,e,h,r⟩,k=>⟨c,d++ds,by subst e;simp,h,bi.append r k⟩
theorem bi.split:∀{xs:List α} {cs:List Value} {ys:List α},bi K F cs (xs++ys)→bi K F (cs.take (xs.length*K.n)) xs∧bi K F (cs.drop (xs.length*K.n)) ys|[],cs,ys,h=>by simp;exact⟨rfl,h⟩|x::xs,cs,ys,⟨c,d,e,h,r⟩=>by subst e;have hl:=K.len h;obtain⟨r1,r2⟩:=bi.split r;(have e1:(x::xs).length*K.n=c.length+xs.length*K.n:=by rw[F2,Gx,hl];omega);rw[e1,Il,Ij];exact⟨⟨c,_,rfl,h,r1⟩,r2⟩
theorem Mt (h:K.rd F cs x):bi K F cs [x]:=⟨cs,[],by simp,h,rfl⟩
theorem bi.get {xs:List α} {cs:List Value} (h:bi K F cs xs) (hx:xs[i]? =some x):K.rd F ((cs.drop (i*K.n)).take K.n) x:=by obtain⟨hi,rfl⟩:=FN.1 hx;(have e:xs=xs.take i++(xs[i]::xs.drop (i+1)):=by simp);rw[e] at h;(have hl:(xs.take i).length=i:=by simp;omega);have h2:=h.split.2;rw[hl] at h2;obtain⟨c,d,e',h',_⟩:=h2;have hlc:=K.len h';rw[e'];rw[←hlc,Hh];exact h'
theorem bi.set {xs:List α} {cs:List Value} (h:bi K F cs xs) (hi:i<xs.length) (hy:K.rd F c y):bi K F (cs.take (i*K.n)++c++cs.drop (i*K.n+K.n)) (xs.set i y):=by(have e:xs=xs.take i++([xs[i]]++xs.drop (i+1)):=by simp);(have e2:xs.set i y=xs.take i++([y]++xs.drop (i+1)):=by rw[Hi,Gz hi];rfl);rw[e2];rw[e] at h;(have hl:(xs.take i).length=i:=by simp;omega);obtain⟨h1,h2⟩:=h.split;rw[hl] at h1 h2;have h3:=h2.split.2;simp only[F2,Gg,Gf,Nat.one_mul,GI] at h3;rw[F6];exact h1.append ((Mt hy).append h3)
theorem bi.take {xs:List α} {cs:List Value} (h:bi K F cs xs) (m:Nat):bi K F (cs.take (m*K.n)) (xs.take m):=by by_cases hm:m≤xs.length;(have e:xs=xs.take m++xs.drop m:=by simp);rw[e] at h;have h1:=h.split.1;rwa [Ga,GE hm] at h1;have h1:xs.take m=xs:=FZ (by omega);have h2:cs.take (m*K.n)=cs:=FZ (by rw[h.len];exact FS _ (by omega));rw[h1,h2];exact h
theorem bi.drop {xs:List α} {cs:List Value} (h:bi K F cs xs) (m:Nat):bi K F (cs.drop (m*K.n)) (xs.drop m):=by by_cases hm:m≤xs.length;(have e:xs=xs.take m++xs.drop m:=by simp);rw[e] at h;have h1:=h.split.2;rwa [Ga,GE hm] at h1;have h1:xs.drop m=[]:=List.drop_of_length_le (by omega);have h2:cs.drop (m*K.n)=[]:=List.drop_of_length_le (by rw[h.len];exact FS _ (by omega));rw[h1,h2];rfl
end
def kArr {α:Type} (m:Nat) (K:Kd α):Kd (List α) where
 n:=m*K.n
 agg:=true
 rd:=λF cs xs=>xs.length=m∧bi K F cs xs
 len:=λ⟨e,h⟩=>by rw[h.len,e]
 mono:=λhg ⟨e,h⟩=>⟨e,h.mono hg⟩
 one:=λ⟨_,h⟩=>h.one
 sole:=λh=>by cases h
structure RdAt {α:Type} (F:Fz) (p:Addr) (K:Kd α) (x:α):Prop where
 out:∃c e fr,p.spot=none∧F.blk p.block=some (.cells c e fr)∧p.off+K.n≤c.size∧K.rd F ((c.toList.drop p.off).take K.n) x
theorem RdAt.mono {K:Kd α} (h:RdAt F p K x) (hg:F≤G):RdAt G p K x:=by obtain⟨c,e,fr,a,b,d,f⟩:=h.out;exact⟨c,e,fr,a,hg.blk _ _ b,d,K.mono hg f⟩
def kSl {α:Type} (K:Kd α):Kd (List α) where
 n:=1
 agg:=false
 rd:=λF cs xs=>∃a cap,cs=[.slice a xs.length cap]∧xs.length≤cap∧(xs.length=0∨∃p c e fr,a=some p∧p.spot=none∧F.blk p.block=some (.cells c e fr)∧p.off+xs.length*K.n≤c.size∧
  bi K F ((c.toList.drop p.off).take (xs.length*K.n)) xs)
 len:=λ⟨_,_,h,_⟩=>by subst h;rfl
 mono:=λhg ⟨a,cap,h,hc,r⟩=>⟨a,cap,h,hc,r.imp id λ⟨p,c,e,fr,a1,a2,a3,a4,a5⟩=>⟨p,c,e,fr,a1,a2,hg.blk _ _ a3,a4,a5.mono hg⟩⟩
 one:=λ⟨_,_,h,_⟩ v hv=>by subst h;simp at hv;subst hv;rfl
 sole:=λ_=>rfl
def rdM {α β:Type} (K:Kd α) (V:Kd β) (F:Fz):List MapEntry→List (α×β)→Prop|[],[]=>True|e::es,p::ps=>K.val F e.key p.1∧V.val F e.val p.2∧rdM K V F es ps|_,_=>False
theorem rdM.mono (hg:F≤G):∀{es:List MapEntry} {ps:List (α×β)},rdM K V F es ps→rdM K V G es ps|[],[],h=>h|e::es,p::ps,⟨a,b,c⟩=>⟨a.mono hg,b.mono hg,rdM.mono hg c⟩|[],_::_,h=>h.elim|_::_,[],h=>h.elim
theorem rdM.len:∀{es:List MapEntry} {ps:List (α×β)},rdM K V F es ps→es.length=ps.length|[],[],h=>rfl|e::es,p::ps,⟨a,b,c⟩=>by simp[rdM.len c]|[],_::_,h=>h.elim|_::_,[],h=>h.elim
def Stamp (es:Array MapEntry) (clock:Nat):Prop:=(∀e∈es.toList,e.born<clock)∧(es.toList.map (·.born)).Nodup
def kMap {α β:Type} (K:Kd α) (V:Kd β):Kd (List (α×β)) where
 n:=1
 agg:=false
 rd:=λF cs ps=>(cs=[.map none]∧ps=[])∨∃b es clock,cs=[.map (some b)]∧F.blk b=some (.map es clock)∧rdM K V F es.toList ps∧Stamp es clock
 len:=λh=>by rcases h with⟨h,_⟩|⟨_,_,_,h,_⟩<;>subst h<;>rfl
 mono:=λhg h=>h.imp id λ⟨b,es,clock,h,a,r⟩=>⟨b,es,clock,h,hg.blk _ _ a,r.1.mono hg,r.2⟩
 one:=λh v hv=>by rcases h with⟨h,_⟩|⟨_,_,_,h,_⟩<;>subst h<;>simp at hv<;>subst hv<;>rfl
 sole:=λ_=>rfl
structure Fld (β:Type) where
 {α:Type}
 K:Kd α
 get:β→α
def nF {β:Type}:List (Fld β)→Nat|[]=>0|f::fs=>f.K.n+nF fs
def offF {β:Type}:List (Fld β)→Nat→Nat|[],_=>0|_,0=>0|f::fs,i+1=>f.K.n+offF fs i
def rdF {β:Type} (F:Fz):List (Fld β)→List Value→β→Prop|[],cs,_=>cs=[]|f::fs,cs,x=>∃c d,cs=c++d∧f.K.rd F c (f.get x)∧rdF F fs d x
def kSt {β:Type} (fs:List (Fld β)):Kd β where
 n:=nF fs
 agg:=true
 rd:=λF cs x=>rdF F fs cs x
 len:=by
  intro F cs x h
  induction fs generalizing cs with
  |nil=>cases h;rfl
  |cons f fs ih=>obtain⟨c,d,e,h,r⟩:=h;subst e;rw[FM,f.K.len h,ih r];rfl
 mono:=by
  intro F G cs x hg h
  induction fs generalizing cs with
  |nil=>exact h
  |cons f fs ih=>obtain⟨c,d,e,h,r⟩:=h;exact⟨c,d,e,f.K.mono hg h,ih r⟩
 one:=by
  intro F cs x h
  induction fs generalizing cs with
  |nil=>cases h;simp
  |cons f fs ih=>
   obtain⟨c,d,e,h,r⟩:=h;subst e
   intro v hv;rcases Gd.1 hv with hv|hv
   · exact f.K.one h v hv
   · exact ih r v hv
 sole:=λh=>by cases h
theorem rdF.get:∀{fs:List (Fld β)} {cs:List Value} {x:β} {i:Nat} {f:Fld β},rdF F fs cs x→fs[i]? =some f→offF fs i+f.K.n≤cs.length∧f.K.rd F ((cs.drop (offF fs i)).take f.K.n) (f.get x)|[],_,_,_,_,_,h=>by cases h|g::fs,cs,x,0,f,⟨c,d,e,h,r⟩,hf=>by cases hf;subst e;have:=g.K.len h;simp only[offF,G9,FM];rw[←this,Hh];exact⟨by omega,h⟩|g::fs,cs,x,i+1,f,⟨c,d,e,h,r⟩,hf=>by subst e;have hl:=g.K.len h;have ih:=rdF.get r (i:=i) (f:=f) (by simpa using hf);simp only[offF,FM];rw[←hl,Ij];exact⟨by omega,ih.2⟩
theorem eS {l:List Value} (h:a+m≤n):(((l.drop b).take n).drop a).take m=(l.drop (b+a)).take m:=by rw[HX,GI,HW,GE (by omega)]
theorem RdAt.fld {β:Type} {F:Fz} {p:Addr} {fs:List (Fld β)} {x:β} (h:RdAt F p (kSt fs) x) {i:Nat} {f:Fld β} (hf:fs[i]? =some f):RdAt F ⟨p.block,p.off+offF fs i,none⟩ f.K (f.get x):=by obtain⟨c,e,fr,a,b,d,r⟩:=h.out;obtain⟨h1,h2⟩:=rdF.get r hf;(have hn:(kSt fs).n=((c.toList.drop p.off).take (kSt fs).n).length:=by simp;omega);refine⟨c,e,fr,rfl,b,?_,?_⟩;have:=d;rw[hn] at this;simp only at*;omega;rw[←hn] at h1;rw[eS h1] at h2;exact h2
theorem kSl.at_ {K:Kd α} {xs:List α} (h:(kSl K).val F v xs):∃a cap,v= .slice a xs.length cap∧∀i x,xs[i]? =some x→∃p,a=some p∧p.spot=none∧RdAt F ⟨p.block,p.off+i*K.n,none⟩ K x:=by obtain⟨cs,⟨a,cap,rfl,hc,r⟩,rfl⟩:=h;refine⟨a,cap,rfl,λi x hx=>?_⟩;obtain⟨hi,_⟩:=FN.1 hx;rcases r with r|⟨p,c,e,fr,rfl,hp,hb,hle,ha⟩;omega;refine⟨p,rfl,hp,⟨c,e,fr,rfl,hb,?_,?_⟩⟩;have:(i+1)*K.n≤xs.length*K.n:=FS _ hi;rw[Gx] at this;simp only;omega;have:=ha.get hx;rwa [eS (by have:(i+1)*K.n≤xs.length*K.n:=FS _ hi;rw[Gx] at this;omega)] at this
theorem RdAt.arr {K:Kd α} {p:Addr} {xs:List α} (h:RdAt F p (kArr m K) xs) (hx:xs[i]? =some x):RdAt F ⟨p.block,p.off+i*K.n,none⟩ K x:=by obtain⟨c,e,fr,a,b,d,r⟩:=h.out;obtain⟨hi,_⟩:=FN.1 hx;have hm:xs.length=m:=r.1;have h1:(i+1)*K.n≤m*K.n:=FS _ (by omega);rw[Gx] at h1;have d':p.off+m*K.n≤c.size:=d;refine⟨c,e,fr,rfl,b,?_,?_⟩;simp only;omega;have:=r.2.get hx;rwa [show(kArr m K).n=m*K.n from rfl,eS (by omega)] at this
end Go.Sim
namespace Go.Sim
open Go
theorem fg {w:World} (h:w.heap[b]? =some o):b<w.heap.size:=(Ho.1 h).1
inductive SV:Type 1 where
 |raw (v:Value)
 |val {α:Type} (K:Kd α) (x:α)
 |ptr {α:Type} (K:Kd α) (x:α)
 |tup (l:List SV)
 |fn (f:FuncId) (l:List SV)
 mutual
def SV.ok (F:Fz) (v:Value):SV→Prop| .raw u=>v=u| .val K x=>K.val F v x| .ptr K x=>∃p,v= .pointer (some p)∧RdAt F p K x| .tup l=>∃vs,v= .tuple vs.toArray∧SV.oks F vs l| .fn f l=>∃vs:List Value,v= .func (.func f) #[] vs.toArray∧SV.oks F vs l
def SV.oks (F:Fz):List Value→List SV→Prop|[],[]=>True|v::vs,s::l=>SV.ok F v s∧SV.oks F vs l|_,_=>False
end
 mutual
theorem Kj (hg:F≤G):∀{s:SV} {v:Value},SV.ok F v s→SV.ok G v s| .raw u,v,h=>by simp only[SV.ok] at*;exact h| .val K x,v,h=>by simp only[SV.ok] at*;exact h.mono hg| .ptr K x,v,h=>by simp only[SV.ok] at*;exact h.imp λp ⟨a,b⟩=>⟨a,b.mono hg⟩| .tup l,v,h=>by simp only[SV.ok] at*;exact h.imp λvs ⟨a,b⟩=>⟨a,Kv hg b⟩| .fn f l,v,h=>by simp only[SV.ok] at*;exact h.imp λvs ⟨a,b⟩=>⟨a,Kv hg b⟩
theorem Kv (hg:F≤G):∀{l:List SV} {vs:List Value},SV.oks F vs l→SV.oks G vs l|[],[],_=>by simp only[SV.oks]|s::l,v::vs,h=>by simp only[SV.oks] at*;exact⟨Kj hg h.1,Kv hg h.2⟩|[],_::_,h=>by simp only[SV.oks] at h|_::_,[],h=>by simp only[SV.oks] at h
end
inductive Res:Type 1 where
 |box {α:Type} (K:Kd α) (b:Nat) (T:TypeId) (x:α)
 |own {α:Type} (K:Kd α) (v:Value) (e:TypeId) (xs:List α)
 |mp {α β:Type} (K:Kd α) (V:Kd β) (b:Nat) (ps:List (α×β))
 |itr {α β:Type} (K:Kd α) (V:Kd β) (b:Nat) (left:List (α×β)) (cur:Option (α×β))
 |any (r:Frag→Prop)
def itH {α β:Type} (K:Kd α) (V:Kd β) (F:Fz) (r:Nat) (left:List (α×β)) (cur:Option (α×β)) (h:Frag):Prop:=(left=[]∧cur=none∧h=Frag.one r (.mapIter none 0 #[] 0))∨∃b es clock seen,F.blk b=some (.map es clock)∧Stamp es clock∧rdM K V F (es.toList.filter λe=> !seen.contains e.born) left∧h=Frag.one r (.mapIter (some b) clock seen clock)∧∀p,cur=some p→∃(e:MapEntry) (seen':Array Nat),seen=seen'.push e.born∧e∈es.toList∧K.val F e.key p.1∧V.val F e.val p.2
def Res.holds (F:Fz) (h:Frag):Res→Prop| .box K b T x=>∃cs,K.rd F cs x∧h=Frag.one b (.cells cs.toArray T (0,0))| .own K v e xs=>(v= .slice none 0 0∧xs=[]∧h=Frag.emp)∨∃g cap cur,v= .slice (some ⟨g,0,none⟩) xs.length cap∧h=Frag.one g (.cells cur e (0,0))∧xs.length≤cap∧cap≤maxLen∧cur.size=cap*K.n∧bi K F (cur.toList.take (xs.length*K.n)) xs| .mp K V b ps=>∃es clock,(rdM K V F es.toList ps∧Stamp es clock)∧h=Frag.one b (.map es clock)| .itr K V b left cur=>itH K V F b left cur h| .any r=>r h
theorem Res.mono (hg:F≤G):∀{r:Res},r.holds F h→r.holds G h| .box K b T x,⟨cs,a,e⟩=>⟨cs,K.mono hg a,e⟩| .own K v e xs,.inl a=> .inl a| .own K v e xs,.inr ⟨g,cap,cur,a1,a2,a3,a4,a5,a6⟩=> .inr ⟨g,cap,cur,a1,a2,a3,a4,a5,a6.mono hg⟩| .mp K V b ps,⟨es,clock,a,e⟩=>⟨es,clock,⟨a.1.mono hg,a.2⟩,e⟩| .itr K V b left cur,.inl a=> .inl a| .itr K V b left cur,.inr ⟨m,es,clock,seen,a,s,rd,e,c⟩=> .inr ⟨m,es,clock,seen,hg.blk _ _ a,s,rd.mono hg,e,λp hp=>let ⟨x,y,a,b,k,v⟩:=c p hp;⟨x,y,a,b,k.mono hg,v.mono hg⟩⟩| .any r,a=>a
def StG (G:Fz):Fz→World→List Res→Prop|F,w,[]=>F.on w|F,w,r::L=>∃h:Frag,r.holds G h∧Apart F h∧StG G (F.add h) w L
def St (F:Fz) (w:World) (L:List Res):Prop:=StG F F w L
theorem StG.on {F:Fz} (h:StG G F w L):F.on w:=by induction L generalizing F with|nil=>exact h|cons r L ih=>obtain⟨f,_,_,h'⟩:=h;have:=ih h';exact⟨λb o e=>this.blk b o ((F.le_add f).blk b o e),this.os,this.tape,this.output⟩
theorem St.on {F:Fz} (h:St F w L):F.on w:=StG.on h
theorem StG.mono (hg:G≤G') (h:StG G F w L):StG G' F w L:=by induction L generalizing F with|nil=>exact h|cons r L ih=>obtain⟨f,a,b,c⟩:=h;exact⟨f,Res.mono hg a,b,ih c⟩
theorem StG.drew {w:World} (h:StG G F w L):StG G F {w with drawn:=w.drawn+1} L:=by induction L generalizing F with|nil=>exact⟨h.blk,h.os,h.tape,h.output⟩|cons r L ih=>obtain⟨f,a,b,h'⟩:=h;exact⟨f,a,b,ih h'⟩
structure Chg (w w':World) (h:Frag):Prop where
 os:w'.os=w.os
 tape:w'.tape=w.tape
 output:w'.output=w.output
 blk:∀b,b<w.heap.size→h b=none→w'.heap[b]? =w.heap[b]?
theorem StG.change {F:Fz} {w w':World} (hs:StG G (F.add h) w L) (ha:Apart F h) (hc:Chg w w' h) (ha':∀b,h' b≠none→h b≠none∨w.heap.size≤b) (hon:∀b o,h' b=some o→w'.heap[b]? =some o):StG G (F.add h') w' L:=by induction L generalizing F with|nil=>have hs':(F.add h).on w:=hs;refine⟨λb o e=>?_,hc.os.trans hs'.os,hc.tape.trans hs'.tape,hc.output.trans hs'.output⟩;rcases L2 e with e|⟨_,e⟩;have hb:=hs'.blk b o ((F.le_add h).blk b o e);(have hn:h b=none:=by cases hh:h b with|none=>rfl|some q=>have:=ha b (by simp[hh]);rw[e] at this;cases this);exact(hc.blk b (fg hb) hn).trans hb;exact hon b o e|cons r L ih=>obtain⟨k,hr,hk,hs'⟩:=hs;have hon':=hs'.on;have dis:∀b,k b≠none→F.blk b=none∧h b=none:=λb hb=>Kf.1 (hk b hb);(have lt:∀b,k b≠none→b<w.heap.size:=λb hb=>by cases hkb:k b with|none=>exact absurd hkb hb|some o=>(have:((F.add h).add k).blk b=some o:=by have:=(dis b hb);simp[Fz.add,this.1,this.2,hkb]);exact fg (hon'.blk b o this));(have dis':∀b,k b≠none→h' b=none:=λb hb=>by cases hh:h' b with|none=>rfl|some q=>rcases ha' b (by simp[hh]) with x|x;exact absurd (dis b hb).2 x;exact absurd (lt b hb) (by omega));refine⟨k,hr,λb hb=>Kf.2 ⟨(dis b hb).1,dis' b hb⟩,?_⟩;rw[km dis'];rw[km (λb hb=>(dis b hb).2)] at hs';refine ih hs' (λb hb=>?_);cases hkb:k b with|none=>exact Kf.2 ⟨ha b hb,hkb⟩|some q=>exact absurd (dis b (by simp[hkb])).2 hb
theorem StG.fresh {F:Fz} {w:World} (h:StG G F w L) (b:Nat) (hb:w.heap.size≤b):F.blk b=none:=by cases e:F.blk b with|none=>rfl|some o=>have:=fg (h.on.blk b o e);omega
theorem L3 {F:Fz} {w w':World} (hs:StG G F w L) (h':Frag) (hc:Chg w w' Frag.emp) (hn:∀b,h' b≠none→w.heap.size≤b) (hon:∀b o,h' b=some o→w'.heap[b]? =some o):Apart F h'∧StG G (F.add h') w' L:=by refine⟨λb hb=>hs.fresh b (hn b hb),?_⟩;(have hs':StG G (F.add Frag.emp) w L:=by rw[Kq];exact hs);exact hs'.change (λb hb=>absurd rfl hb) hc (λb hb=> .inr (hn b hb)) hon
theorem KU {w w':World} (hs:St F w L) (h':Frag) {r:Res} (hr:r.holds F h') (hc:Chg w w' Frag.emp) (hn:∀b,h' b≠none→w.heap.size≤b) (hon:∀b o,h' b=some o→w'.heap[b]? =some o):St F w' (r::L):=let ⟨a,b⟩:=L3 hs h' hc hn hon;⟨h',hr,a,b⟩
theorem Lp {F:Fz} {w w':World} (hs:St F w L) (h':Frag) (hc:Chg w w' Frag.emp) (hn:∀b,h' b≠none→w.heap.size≤b) (hon:∀b o,h' b=some o→w'.heap[b]? =some o):F≤F.add h'∧St (F.add h') w' L:=let ⟨a,b⟩:=L3 hs h' hc hn hon;⟨F.le_add h',b.mono (F.le_add h')⟩
theorem St.turn {F:Fz} {w w':World} {r r':Res} (hs:St F w (r::L)) (step:∀h,r.holds F h→(∀b o,h b=some o→w.heap[b]? =some o)→∃h',r'.holds F h'∧Chg w w' h∧(∀b,h' b≠none→h b≠none∨w.heap.size≤b)∧(∀b o,h' b=some o→w'.heap[b]? =some o)):St F w' (r'::L):=by obtain⟨h,hr,ha,hs'⟩:=hs;have hon:∀b o,h b=some o→w.heap[b]? =some o:=λb o e=>hs'.on.blk b o (by have:=ha b (by simp[e]);simp[Fz.add,this,e]);obtain⟨h',hr',hc,hd,ho⟩:=step h hr hon;refine⟨h',hr',λb hb=>?_,hs'.change ha hc hd ho⟩;rcases hd b hb with x|x;exact ha b x;cases e:F.blk b with|none=>rfl|some o=>have:=fg (hs'.on.blk b o ((F.le_add h).blk b o e));omega
theorem St.head {w:World} {r:Res} (hs:St F w (r::L)):∃h,r.holds F h∧(∀b o,h b=some o→w.heap[b]? =some o):=by obtain⟨h,hr,ha,hs'⟩:=hs;exact⟨h,hr,λb o e=>hs'.on.blk b o (by have:=ha b (by simp[e]);simp[Fz.add,this,e])⟩
theorem StG.swap {F:Fz} (hs:StG G F w (r::q::L)):StG G F w (q::r::L):=by obtain⟨h,hr,ha,k,hq,hk,hs'⟩:=hs;have dis:∀b,k b≠none→F.blk b=none∧h b=none:=λb hb=>Kf.1 (hk b hb);refine⟨k,hq,λb hb=>(dis b hb).1,h,hr,λb hb=>Kf.2 ⟨ha b hb,?_⟩,?_⟩;(cases e:k b with|none=>rfl|some o=>exact absurd (dis b (by simp[e])).2 hb);rw[km (λb hb=>?_)];exact hs';cases e:k b with|none=>rfl|some o=>exact absurd (dis b (by simp[e])).2 hb
theorem StG.perm {L:List Res} (p:L.Perm L'):∀F,StG G F w L→StG G F w L':=by
 induction p with
 |nil=>exact λ_ h=>h
 |cons x _ ih=>exact λ_ ⟨f,a,b,c⟩=>⟨f,a,b,ih _ c⟩
 |swap x y l=>exact λ_ h=>h.swap
 |trans _ _ ih1 ih2=>exact λF h=>ih2 F (ih1 F h)
theorem St.perm {L:List Res} (hs:St F w L) (p:L.Perm L'):St F w L':=StG.perm p F hs
theorem St.drop {F:Fz} (hs:St F w (r::L)):St F w L:=by obtain⟨h,hr,ha,hs'⟩:=hs;have:StG F (F.add Frag.emp) w L:=hs'.change ha ⟨rfl,rfl,rfl,λ_ _ _=>rfl⟩ (λb hb=>absurd rfl hb) (λb o e=>by cases e);rwa [Kq] at this
theorem St.freeze {F:Fz} {r:Res} (hs:St F w (r::L)):∃h,r.holds (F.add h) h∧Apart F h∧F≤F.add h∧St (F.add h) w L:=by obtain⟨h,hr,ha,hs'⟩:=hs;exact⟨h,Res.mono (F.le_add h) hr,ha,F.le_add h,StG.mono (F.le_add h) hs'⟩
def Res.fix (F:Fz) (r:Res):Res:= .any λh=>r.holds F h
theorem StG.fix (G G':Fz):∀{L:List Res} {F:Fz},StG G F w L↔StG G' F w (L.map (Res.fix G))|[],F=>Iff.rfl|r::L,F=>by simp only[Ge,StG];exact⟨λ⟨h,a,b,c⟩=>⟨h,a,b,(StG.fix G G').1 c⟩,λ⟨h,a,b,c⟩=>⟨h,a,b,(StG.fix G G').2 c⟩⟩
def look:List (Nat×SV)→Nat→Option SV|[],_=>none|(k,v)::E,t=>cond (Nat.beq k t) (some v) (look E t)
theorem ck (k:Nat) (v:SV) (E:List (Nat×SV)) (t:Nat):look ((k,v)::E) t=if k=t then some v else look E t:=by simp only[look];by_cases h:k=t;simp[h];(have:Nat.beq k t=false:=by cases hb:Nat.beq k t with|false=>rfl|true=>exact absurd (GK hb) h);simp[this,h]
structure Env (F:Fz) (a:Act) (n:Nat) (E:List (Nat×SV)):Prop where
 defers:a.defers=[]
 size:a.tmps.size=n
 at_:∀t s,look E t=some s→∃v,a.tmps[t]? =some v∧s.ok F v
theorem Env.mono (h:Env F a n E) (hg:F≤G):Env G a n E:=⟨h.defers,h.size,λt s e=>let ⟨v,a,b⟩:=h.at_ t s e;⟨v,a,Kj hg b⟩⟩
def ev (E:List (Nat×SV)):Operand→Option SV| .tmp t=>look E t| .const v=>some (.raw v)| .global g=>(match Ah g Ag with|some (k,xs)=>some (.ptr (kArr xs.length (kInt k)) xs)|none=>some (.raw (.pointer (some ⟨g,0,none⟩))))| .func f=>some (.raw (.func (.func f) #[] #[]))
theorem Env.eval {F:Fz} {a:Act} (h:Env F a n E) {s:SV} (e:ev E x=some s):s.ok F (a.eval x):=by cases x with|tmp t=>obtain⟨v,h1,h2⟩:=h.at_ t s e;simpa[Act.eval,Ik,h1] using h2|const u=>cases e;simp only[SV.ok];rfl|global g=>simp only[ev] at e;split at e;rename_i k xs hg;cases e;obtain⟨T,fr,hb⟩:=F.glob.on g k xs hg;simp only[SV.ok];refine⟨⟨g,0,none⟩,rfl,⟨⟨_,T,fr,rfl,hb,?_,?_⟩⟩⟩;simp[kArr,kInt];(have:∀ys:List Int,bi (kInt k) F (ys.map (Value.int k ·)) ys:=λys=>by induction ys with|nil=>rfl|cons y ys ih=>exact⟨[.int k y],_,rfl,rfl,ih⟩);have h2:=this xs;(have e2:((xs.map (Value.int k ·)).toArray.toList.drop 0).take (kArr xs.length (kInt k)).n=xs.map (Value.int k ·):=by simp[kArr,kInt,FZ]);exact⟨rfl,by rw[e2];exact h2⟩;cases e;simp only[SV.ok];rfl|func f=>cases e;simp only[SV.ok];rfl
theorem Env.raw {a:Act} (h:Env F a n E) (e:ev E x=some (.raw v)):a.eval x=v:=by have:=h.eval e;simpa only[SV.ok] using this
theorem Env.put {a:Act} (h:Env F a n E) (hd:Nat.blt d n=true) {s:SV} (hv:s.ok F v):Env F (a.put (some d) v) n ((d,s)::E):=by(have hd':d<n:=by simpa[Hp] using hd);refine⟨h.defers,by simp[Act.put,h.size],λt u e=>?_⟩;rw[ck] at e;simp only[Act.put];by_cases hk:d=t;subst hk;simp only[IE] at e;cases e;exact⟨v,by rw[Gj (by rw[h.size];exact hd')],hv⟩;rw[Gt hk] at e;rw[GG hk];exact h.at_ t u e
theorem Env.sub (h:Env F a n E) (hs:∀t v,look E' t=some v→look E t=some v):Env F a n E':=⟨h.defers,h.size,λt v e=>h.at_ t v (hs t v e)⟩
theorem kX (E:List (Nat×SV)):∀t v,look [] t=some v→look E t=some v:=λ_ _ h=>by cases h
theorem aI (h:look E k=some u) (r:∀t v,look E' t=some v→look E t=some v):∀t v,look ((k,u)::E') t=some v→look E t=some v:=λt v e=>by rw[ck] at e;split at e;rename_i hk;subst hk;rw[h];exact e;exact r t v e
def argE:Nat→List SV→List (Nat×SV)|_,[]=>[]|i,s::l=>(i,s)::argE (i+1) l
theorem w6:∀{l:List SV} {vs:List Value} {i t:Nat} {s:SV},SV.oks F vs l→look (argE i l) t=some s→i≤t∧∃v,vs[t - i]? =some v∧s.ok F v|[],_,_,_,_,_,h=>by cases h|s0::l,[],_,_,_,h,_=>by simp only[SV.oks] at h|s0::l,v::vs,i,t,s,h,e=>by simp only[SV.oks] at h;rw[argE,ck] at e;split at e;rename_i hk;subst hk;cases e;exact⟨F9 _,v,by simp,h.1⟩;rename_i hk;obtain⟨h1,u,h2,h3⟩:=w6 h.2 e;refine⟨by omega,u,?_,h3⟩;rw[show t - i=(t - (i+1))+1 by omega];simpa using h2
theorem mq:∀{l:List SV} {vs:List Value},SV.oks F vs l→vs.length=l.length|[],[],_=>rfl|s::l,v::vs,h=>by simp only[SV.oks] at h;simp[mq h.2]|[],_::_,h=>by simp only[SV.oks] at h|_::_,[],h=>by simp only[SV.oks] at h
theorem LI {vs:List Value} {l:List SV} (h:SV.oks F vs l) (m:Nat):Env F {tmps:=vs.toArray++Array.replicate m undef,defers:=[]} (l.length+m) (argE 0 l):=by have hl:=mq h;refine⟨rfl,by simp[hl],λt s e=>?_⟩;obtain⟨_,v,h2,h3⟩:=w6 h e;refine⟨v,?_,h3⟩;(have hlt:t<vs.length:=by simpa using(FN.1 h2).1);rw[Ip (by simpa using hlt)];simpa using h2
def Under (F0:Fz) (n:Nat) (E:List (Nat×SV)) (L:List Res) (X:Act→World→Prop):Prop:=∀F a w,F0≤F→Env F a n E→St F w L→X a w
def Cl (F:Fz) (L:List Res) (w:World):Prop:=∃G,F≤G∧St G w L
def OpV (P:Program) (n:Nat) (E:List (Nat×SV)) (L:List Res) (o:Oper) (s:SV):Prop:=∀F a,Env F a n E→∃v,s.ok F v∧∀w,Cl F L w→o.quietAt P a (Cl F L) w v
def Ok (P:Program) (f:FuncId) (args:List SV) (L:List Res) (s:SV) (L':List Res):Prop:=∀F w vs,SV.oks F vs args→St F w L→Calls P f vs.toArray w λe w'=>∃G v,e= .returned v∧F≤G∧St G w' L'∧s.ok G v
theorem LD {o:Oper} {a:Act} (h:∀a w,K a w→K' a w) (hq:∀e a w,Q e a w→Q' e a w)
  (hh:o.wp P a w K Q):o.wp P a w K' Q':=by
 unfold Oper.wp at*
 generalize (execOp a.eval o).run P w=r at*
 cases r with
 |ok n w'=>
  cases n<;>simp only[Oper.upon] at hh⊢
  case value v=>exact h _ _ hh
  case skip=>exact h _ _ hh
  case defer d=>exact h _ _ hh
  case row r args=>exact Rows.mono hh (λ_ _ he=>h _ _ he)
  case enter f args=>
   refine Calls.mono hh (λe w'' he=>?_)
   cases e with
   |returned v=>exact h _ _ he
   |panicked c=>exact hq _ _ _ he
   |outgrown=>obtain⟨a',w',x⟩:=he;exact⟨a',w',hq _ _ _ x⟩
  all_goals exact hh
 |halt x w'=>cases x<;>simp only[Oper.upon] at hh⊢<;>first|exact hq _ _ _ hh|exact hh
section
variable {P:Program} {ops:Array Oper} {Q:Exit→Act→World→Prop} {rest:List Oper} {F0:Fz} {n:Nat} {E:List (Nat×SV)} {L:List Res}
variable {d:Nat} {op:Op} {ty:TypeId} {pos:String} {aft:Array Edge} {s:SV}
theorem JE {o:Oper} (hg:o.guard=none) (h:∀F a w,F0≤F→Env F a n E→St F w L→o.wp P a w (wpList P ops Q rest) Q):Under F0 n E L (wpList P ops Q (o::rest)):=λF a w h0 hE hS=>wpList_plain hg λK hK=>LD hK (λ_ _ _ q=>q) (h F a w h0 hE hS)
theorem J4 (h:OpV P n E L ⟨some d,op,ty,pos,aft,none⟩ s) (hd:Nat.blt d n=true) (k:Under F0 n ((d,s)::E) L (wpList P ops Q rest)):
  Under F0 n E L (wpList P ops Q (⟨some d,op,ty,pos,aft,none⟩::rest)):=
 JE rfl λF a w h0 hE hS=>by
  obtain⟨v,hv,this⟩:=h F a hE
  have this:=this w ⟨F,KF F,hS⟩
  unfold Oper.quietAt at this
  unfold Oper.wp
  generalize (execOp a.eval (⟨some d,op,ty,pos,aft,none⟩:Oper)).run P w=r at this
  cases r with
  |halt x w'=>exact this.elim
  |ok nx w'=>
   cases nx<;>simp only[Oper.quietUpon] at this<;>simp only[Oper.upon]
   case value u=>obtain⟨rfl,rfl⟩:=this;exact k _ _ _ h0 (hE.put hd hv) hS
   case skip=>obtain⟨rfl,rfl⟩:=this;exact k _ _ _ h0 (hE.put hd hv) hS
   case enter f args=>
    obtain⟨rfl,hc⟩:=this
    exact hc.mono λe w'' ⟨he,G,hg,hw⟩=>by subst he;exact k _ _ _ (Ki h0 hg) ((hE.mono hg).put hd (Kj hg hv)) hw
theorem ML (hj:((ops[j]?).bind (·.dst))=some g) (hb:look E g=some (.raw (.bool b))) (k:Under F0 n E L (wpList P ops Q (⟨o,op,ty,pos,aft,none⟩::rest))):Under F0 n E L (wpList P ops Q (⟨o,op,ty,pos,aft,some (j,b)⟩::rest)):=λF a w h0 hE hS=>by have hk:=k F a w h0 hE hS;obtain⟨v,hv,he⟩:=hE.at_ g _ hb;simp only[SV.ok] at he;subst he;(have hy:yielded ops a.tmps j=some b:=by simp[yielded,hj,hv]);unfold wpList at hk⊢;simp only[Region.wanted,IE,hy,H9] at hk⊢;exact hk
theorem Under.skip (hj:((ops[j]?).bind (·.dst))=some g) (hb:look E g=some (.raw (.bool (!b)))) (hu:Nat.blt u n=true) (k:Under F0 n ((u,.raw undef)::E) L (wpList P ops Q rest)):Under F0 n E L (wpList P ops Q (⟨some u,op,ty,pos,aft,some (j,b)⟩::rest)):=λF a w h0 hE hS=>by obtain⟨v,hv,he⟩:=hE.at_ g _ hb;simp only[SV.ok] at he;subst he;(have hy:yielded ops a.tmps j=some (!b):=by simp[yielded,hj,hv]);unfold wpList;rw[Gt (by simp[Region.wanted,hy])];exact k _ _ _ h0 (hE.put hu (by simp only[SV.ok])) hS
theorem Under.seq {x y:Code} (k:Under F0 n E L (x.wp P (Exit.then (y.wp P Q) Q))):Under F0 n E L ((Code.seq x y).wp P Q):=λF a w h0 hE hS=>wp_seq (k F a w h0 hE hS)
theorem Under.region {id:Nat} {l:List Oper} (k:Under F0 n E L (wpList P l.toArray Q l)):Under F0 n E L ((Code.region id l.toArray false).wp P Q):=λF a w h0 hE hS=>wp_region_lit (k F a w h0 hE hS)
theorem Under.nil (k:Under F0 n E L (Q .normal)):Under F0 n E L (wpList P ops Q []):=k
theorem KK (k:Under F0 n E L (Q .normal)):Under F0 n E L (Code.skip.wp P Q):=λF a w h0 hE hS=>wp_skip (k F a w h0 hE hS)
theorem Under.exit {id:Nat} (k:Under F0 n E L (Q (.exit id))):Under F0 n E L ((Code.exit id).wp P Q):=λF a w h0 hE hS=>wp_exit (k F a w h0 hE hS)
theorem Lq (k:Under F0 n E L (Q .ret)):Under F0 n E L (Code.ret.wp P Q):=λF a w h0 hE hS=>wp_ret (k F a w h0 hE hS)
theorem Under.block {id:Nat} {c:Code} (k:Under F0 n E L (c.wp P (Exit.inBlock id Q))):Under F0 n E L ((Code.block id c).wp P Q):=λF a w h0 hE hS=>wp_block (k F a w h0 hE hS)
theorem Kg {x y:Code} (hX:ev E X=some (.raw (.bool c))) (kt:c=true→Under F0 n E L (x.wp P Q)) (kf:c=false→Under F0 n E L (y.wp P Q)):Under F0 n E L ((Code.cond X x y).wp P Q):=λF a w h0 hE hS=>wp_cond_split (hE.raw hX) (λh=>kt h F a w h0 hE hS) (λh=>kf h F a w h0 hE hS)
theorem Mu {x y:Code} (hF:(bif c then A else B)=some r) (hX:ev E X=some (.raw (.bool c))) (kt:A=some r→Under F0 n E L (x.wp P Q)) (kf:B=some r→Under F0 n E L (y.wp P Q)):Under F0 n E L ((Code.cond X x y).wp P Q):=Kg hX (λh=>kt (by rw[h] at hF;exact hF)) (λh=>kf (by rw[h] at hF;exact hF))
theorem Ld (hs:∀t v,look E' t=some v→look E t=some v) (k:Under F0 n E' L X):Under F0 n E L X:=λF a w h0 hE hS=>k F a w h0 (hE.sub hs) hS
theorem Under.perm (p:L.Perm L') (k:Under F0 n E L' X):Under F0 n E L X:=λF a w h0 hE hS=>k F a w h0 hE (hS.perm p)
theorem Li (k:Under F0 n E L X):Under F0 n E (r::L) X:=λF a w h0 hE hS=>k F a w h0 hE hS.drop
theorem Ok.intro {fn:Func} {c:Code} {args:List SV} (m:Nat) (E0:List (Nat×SV)) (hf:P.funcs[f]? =some fn) (hb:fn.body=some c) (hn:fn.ntmps=m) (hl:Nat.ble args.length m=true) (hE:argE 0 args=E0) (k:∀F0,Under F0 m E0 L (c.wp P (bodyPost P fn λe w'=>∃G v,e= .returned v∧F0≤G∧St G w' L'∧s.ok G v))):Ok P f args L s L':=λF w vs hv hS=>by refine calls_of_wp hf hb ?_;have hl':=mq hv;have hle:=Hb hl;(have he:fn.ntmps - vs.toArray.size=m - args.length:=by simp[hn,hl']);rw[he];(have h2:args.length+(m - args.length)=m:=by omega);have hst:=LI hv (m - args.length);rw[h2,hE] at hst;exact k F F _ w (KF F) hst hS
end
end Go.Sim
namespace Go.Sim
open Go
def rdOf {α:Type} (s:SV) (K:Kd α) (x:α):Prop:=∀F v,s.ok F v→K.val F v x
theorem rdV:rdOf (.val K x) K x:=λF v h=>by simpa only[SV.ok] using h
theorem rdI:rdOf (.raw (.int k x)) (kInt k) x:=λF v h=>by simp only[SV.ok] at h;subst h;exact lN.2 rfl
theorem rdB:rdOf (.raw (.bool x)) mN x:=λF v h=>by simp only[SV.ok] at h;subst h;exact vl.2 rfl
theorem rdN:rdOf (.raw (.slice none 0 0)) (kSl K) []:=λF v h=>by simp only[SV.ok] at h;subst h;exact⟨[.slice none 0 0],⟨none,0,rfl,F9 _,.inl rfl⟩,rfl⟩
section
variable {P:Program} {ops:Array Oper} {Q:Exit→Act→World→Prop} {rest:List Oper} {F0:Fz} {n:Nat} {E:List (Nat×SV)} {L:List Res}
variable {d:Nat} {op:Op} {ty:TypeId} {pos:String} {aft:Array Edge} {s:SV}
theorem OpV.pure (h:∀F a,Env F a n E→∃v,s.ok F v∧∀w,(execOp a.eval o).run P w= .ok (.value v) w):OpV P n E L o s:=λF a hE=>by obtain⟨v,hv,hw⟩:=h F a hE;exact⟨v,hv,λw _=>by unfold Oper.quietAt;rw[hw w];exact⟨rfl,rfl⟩⟩
def JX:=@OpV.pure
theorem JW (h:∀F a,Env F a n E→∀w,(execOp a.eval o).run P w= .ok (.value v) w):OpV P n E L o (.raw v):=JX λF a hE=>⟨v,by simp only[SV.ok],h F a hE⟩
theorem OpV.move (h:ev E x=some s):OpV P n E L ⟨some d,.move x,ty,pos,aft,none⟩ s:=JX λF a hE=>⟨_,hE.eval h,λw=>by simp[execOp]⟩
theorem Mm (h:ev E x=some s):OpV P n E L ⟨some d,.assign x,ty,pos,aft,none⟩ s:=JX λF a hE=>⟨_,hE.eval h,λw=>by simp[execOp]⟩
theorem OpV.pick (h:ev E x=some (.raw (.bool c))) (h1:c=true→ev E y=some s) (h2:c=false→ev E z=some s):OpV P n E L ⟨some d,.pick x y z,ty,pos,aft,none⟩ s:=JX λF a hE=>by cases c with|true=>exact⟨_,hE.eval (h1 rfl),λw=>by simp[execOp,hE.raw h,asBool]⟩|false=>exact⟨_,hE.eval (h2 rfl),λw=>by simp[execOp,hE.raw h,asBool]⟩
def andI (k:IntKind) (x y:Int):Int:=k.wrap ((BitVec.ofInt k.bits x&&&BitVec.ofInt k.bits y).toNat)
def orI (k:IntKind) (x y:Int):Int:=k.wrap ((BitVec.ofInt k.bits x|||BitVec.ofInt k.bits y).toNat)
def xorI (k:IntKind) (x y:Int):Int:=k.wrap ((BitVec.ofInt k.bits x^^^BitVec.ofInt k.bits y).toNat)
def bicI (k:IntKind) (x y:Int):Int:=k.wrap ((BitVec.ofInt k.bits x&&&~~~BitVec.ofInt k.bits y).toNat)
def cplI (k:IntKind) (x:Int):Int:=k.wrap ((BitVec.ofInt k.bits (if k.signed then -1 else k.max)^^^BitVec.ofInt k.bits x).toNat)
def shlI (k:IntKind) (x y:Int):Int:=k.wrap (x*2^min y.toNat k.bits)
def shrI (k:IntKind) (x y:Int):Int:=x.fdiv (2^min y.toNat k.bits)
def binI (op:BinOp) (k:IntKind) (x y:Int):Option Value:=match op with| .add=>some (.int k (k.wrap (x+y)))| .sub=>some (.int k (k.wrap (x - y)))| .mul=>some (.int k (k.wrap (x*y)))| .and=>some (.int k (andI k x y))| .or=>some (.int k (orI k x y))| .xor=>some (.int k (xorI k x y))| .andNot=>some (.int k (bicI k x y))| .eql=>some (.bool (x==y))| .neq=>some (.bool (x != y))| .lss=>some (.bool (decide (x<y)))| .leq=>some (.bool (decide (x≤y)))| .gtr=>some (.bool (decide (x>y)))| .geq=>some (.bool (decide (x≥y)))|_=>none
theorem LV (hX:ev E X=some (.raw (.int k x))) (hY:ev E Y=some (.raw (.int k y))) (hv:binI b k x y=some v):OpV P n E L ⟨some d,.binOp b t X Y u,ty,pos,aft,none⟩ (.raw v):=JW λF a hE w=>by have e1:=hE.raw hX;have e2:=hE.raw hY;cases b<;>simp only[binI,Option.some.injEq,reduceCtorEq] at hv<;>subst hv<;>simp[execOp,e1,e2,eqGuard,binOp,Op.intArith,Op.intBits,Op.intCmp,andI,orI,xorI,bicI]
def binQ (op:BinOp) (k:IntKind) (x y:Int):Option Value:=match op with| .quo=>some (.int k (k.wrap (x.tdiv y)))| .rem=>some (.int k (x.tmod y))|_=>none
theorem OpV.quo (hX:ev E X=some (.raw (.int k x))) (hY:ev E Y=some (.raw (.int k y))) (hy:y≠0) (hv:binQ b k x y=some v):OpV P n E L ⟨some d,.binOp b t X Y u,ty,pos,aft,none⟩ (.raw v):=JW λF a hE w=>by have e1:=hE.raw hX;have e2:=hE.raw hY;cases b<;>simp only[binQ,Option.some.injEq,reduceCtorEq] at hv<;>subst hv<;>simp[execOp,e1,e2,eqGuard,binOp,Op.intDiv,hy]
def JM:=@OpV.quo
def shI (op:BinOp) (k:IntKind) (x y:Int):Option Value:=match op with| .shl=>some (.int k (shlI k x y))| .shr=>some (.int k (shrI k x y))|_=>none
theorem JQ (hX:ev E X=some (.raw (.int k x))) (hY:ev E Y=some (.raw (.int k' y))) (hy:0≤y) (hv:shI b k x y=some v):OpV P n E L ⟨some d,.binOp b t X Y u,ty,pos,aft,none⟩ (.raw v):=JW λF a hE w=>by have e1:=hE.raw hX;have e2:=hE.raw hY;(have hy':¬y<0:=by omega);cases b<;>simp only[shI,Option.some.injEq,reduceCtorEq] at hv<;>subst hv<;>simp[execOp,e1,e2,eqGuard,binOp,Op.shift,hy',shlI,shrI]
theorem OpV.not (hX:ev E X=some (.raw (.bool c))):OpV P n E L ⟨some d,.unOp .not t X,ty,pos,aft,none⟩ (.raw (.bool (!c))):=JW λF a hE w=>by simp[execOp,hE.raw hX,Op.unary]
def JU:=@OpV.not
theorem OpV.neg {k:IntKind} (hX:ev E X=some (.raw (.int k x))):OpV P n E L ⟨some d,.unOp .neg t X,ty,pos,aft,none⟩ (.raw (.int k (k.wrap (0 - x)))):=JW λF a hE w=>by simp[execOp,hE.raw hX,Op.unary,Op.intArith]
theorem Mn (hX:ev E X=some (.raw (.int k x))):OpV P n E L ⟨some d,.unOp .xor t X,ty,pos,aft,none⟩ (.raw (.int k (cplI k x))):=JW λF a hE w=>by simp[execOp,hE.raw hX,Op.unary,Op.intBits,cplI]
theorem J6 {k:IntKind} (hs:(P.underlying q).isSome=true) (ht:P.underlying t=some (.int k)) (hX:ev E X=some (.raw (.int k' x))):OpV P n E L ⟨some d,.convert q t X,ty,pos,aft,none⟩ (.raw (.int k (k.wrap x))):=JW λF a hE w=>by obtain⟨ds,hds⟩:=Option.isSome_iff_exists.1 hs;simp[execOp,hE.raw hX,convert,FY hds,FY ht,Conv.intToInt]
theorem OpV.len {xs:List α} (ht:P.underlying t=some (.slice e)) (hX:ev E X=some s) (hr:rdOf s (kSl K) xs):OpV P n E L ⟨some d,.call ⟨.builtin .len,#[X],#[t]⟩,ty,pos,aft,none⟩ (.raw (.int .i64 xs.length)):=JW λF a hE w=>by obtain⟨a0,cap,he,_⟩:=kSl.at_ (hr F _ (hE.eval hX));simp[execOp,resolve,invoke,builtin,Builtin.len_,FY ht,he,goInt]
def Kn:=@OpV.len
theorem KA (hX:ev E X=some (.tup l)) (hi:l[i]? =some s):OpV P n E L ⟨some d,.extract X i,ty,pos,aft,none⟩ s:=JX λF a hE=>by have:=hE.eval hX;simp only[SV.ok] at this;obtain⟨vs,he,ho⟩:=this;(have:∀(l:List SV) (vs:List Value) (i:Nat),SV.oks F vs l→l[i]? =some s→∃v,vs[i]? =some v∧s.ok F v:=by intro l;induction l with|nil=>intro vs i _ h;cases h|cons t l ih=>intro vs i h hi;cases vs with|nil=>simp only[SV.oks] at h|cons v vs=>simp only[SV.oks] at h;cases i with|zero=>simp at hi;subst hi;exact⟨v,rfl,h.1⟩|succ i=>simpa using ih vs i h.2 (by simpa using hi));obtain⟨v,h1,h2⟩:=this l vs i ho hi;exact⟨v,h2,λw=>by simp[execOp,he,Instr.extract,h1]⟩
def aggB (P:Program) (T:TypeId):Option Bool:=match P.underlying T with|some (.struct _)|some (.array _ _)=>some true|some _=>some false|none=>none
structure KT {α:Type} (P:Program) (T:TypeId) (K:Kd α):Prop where
 size:(P.info? T).map (·.size)=some K.n
 agg:aggB P T=some K.agg
theorem vp (h:aggB P T=some b) (w:World):(isAgg T).run P w= .ok b w:=by unfold aggB at h;cases hu:P.underlying T with|none=>rw[hu] at h;cases h|some ds=>unfold isAgg;rw[FV,FY hu w];rw[hu] at h;cases ds<;>simp_all
theorem Fn (h:aggB P T=some b):∃ds,P.underlying T=some ds:=by unfold aggB at h;cases hu:P.underlying T with|none=>rw[hu] at h;cases h|some ds=>exact⟨ds,rfl⟩
theorem kO {K:Kd α} (hT:KT P T K) {w:World} {p:Addr} {c:Array Value} (hp:p.spot=none) (hb:w.heap[p.block]? =some (.cells c e fr)) (hle:p.off+K.n≤c.size):(Instr.loadAt T (.pointer (some p))).run P w= .ok (pack K.agg ((c.toList.drop p.off).take K.n)) w:=by obtain⟨b,off,spot⟩:=p;simp only at hp hb hle;subst hp;(have hlen:((c.toList.drop off).take K.n).length=K.n:=by simp;omega);cases ha:K.agg with|true=>obtain⟨ds,hu⟩:=Fn hT.agg;(have hrow:ds.isRow=true:=by have:=hT.agg;unfold aggB at this;rw[hu,ha] at this;cases ds<;>simp_all [TypeDesc.isRow]);refine run_loadAt_mid w b off T _ ds (λj v hv=>?_) hu hrow (by rw[hlen];exact hT.size);(have hcell:w.cell? ⟨b,off+j,none⟩=c[off+j]? :=by simp[World.cell?,hb]);rw[hcell];(have hj:j<K.n:=by have h9:=(FN.1 hv).1;simp only[Ga] at h9;omega);rw[Gc hj,Gq] at hv;simpa using hv|false=>have h1:=K.sole ha;have hisagg:=vp (P:=P) (by rw[hT.agg,ha]:aggB P T=some false) w;(have hlt:off<c.size:=by omega);(have hcell:w.cell? ⟨b,off,none⟩=some c[off]:=by simp[World.cell?,hb,hlt]);(have hl:(load ⟨b,off,none⟩).run P w= .ok c[off] w:=by simp[load,Sem.run,hcell]);(have htk:((c.toList.drop off).take K.n)=[c[off]]:=by rw[h1];rw[Hf (by simpa using hlt)];simp);simp only[Instr.loadAt,Instr.sureAddr,FV,F3,FQ,loadVar,hisagg,hl,htk];simp[pack,hl]
theorem JH (hT:KT P T K) (hX:ev E X=some (.ptr K x)):OpV P n E L ⟨some d,.load T X,ty,pos,aft,none⟩ (.val K x):=λF a hE=>by have:=hE.eval hX;simp only[SV.ok] at this;obtain⟨p,he,hp⟩:=this;obtain⟨c,e,fr,hs,hb,hle,hr⟩:=hp.out;refine⟨_,by simp only[SV.ok];exact⟨_,hr,rfl⟩,λw ⟨G,hg,hS⟩=>?_⟩;have:=kO hT hs (hS.on.blk _ _ (hg.blk _ _ hb)) hle;unfold Oper.quietAt;simp[execOp,he,this,Oper.quietUpon]
theorem Lr (h:OpV P n E L o (.val (kInt k) x)):OpV P n E L o (.raw (.int k x)):=λF a hE=>by obtain⟨v,hv,hw⟩:=h F a hE;exact⟨v,by simp only[SV.ok] at*;exact lN.1 hv,hw⟩
theorem JC (hT:KT P T (kInt k)) (hX:ev E X=some (.ptr (kInt k) x)):OpV P n E L ⟨some d,.load T X,ty,pos,aft,none⟩ (.raw (.int k x)):=Lr (JH hT hX)
theorem cP (h:(P.info? T).map (·.size)=some m) (w:World):(sizeOf T).run P w= .ok m w:=by cases hq:P.info? T with|none=>rw[hq] at h;cases h|some i=>(rw[hq] at h;have:i.size=m:=by simpa using h);simp[sizeOf,typeInfo,hq,this]
def fldB (P:Program) (T:TypeId) (i:Nat):Option (Nat×Nat):=match P.underlying T with|some (.struct fs)=>(fs[i]?).bind λf=>((P.info? f.type).map (·.size)).map λs=>(f.offset,s)|_=>none
theorem sU (h:fldB P T i=some (o,m+1)) (p:Addr) (hp:p.spot=none) (w:World):(Instr.fieldAt T (.pointer (some p)) i).run P w= .ok (.pointer (some ⟨p.block,p.off+o,none⟩)) w:=by unfold fldB at h;split at h;rename_i fs hu;obtain⟨f,hf,h⟩:=Gw.1 h;obtain⟨s',hs,h⟩:=Gs.1 h;simp only[Prod.mk.injEq] at h;obtain⟨rfl,rfl⟩:=h;have hsz:=cP hs;(have hadd:p.add f.offset=⟨p.block,p.off+f.offset,none⟩:=by obtain⟨b,off,sp⟩:=p;simp only at hp;subst hp;exact Gp b off _);simp[Instr.fieldAt,FY hu,hf,Instr.sureAddr,fieldPlace,hsz,hadd];cases h
theorem JR {β:Type} {fs:List (Fld β)} {T:TypeId} {X:Operand} {i m:Nat} {x:β} {f:Fld β} (hT:fldB P T i=some (offF fs i,m+1)) (hf:fs[i]? =some f) (hX:ev E X=some (.ptr (kSt fs) x)):OpV P n E L ⟨some d,.fieldAddr T X i,ty,pos,aft,none⟩ (.ptr f.K (f.get x)):=JX λF a hE=>by have:=hE.eval hX;simp only[SV.ok] at this;obtain⟨p,he,hp⟩:=this;obtain⟨_,_,_,hs,_⟩:=hp.out;exact⟨.pointer (some ⟨p.block,p.off+offF fs i,none⟩),by simp only[SV.ok];exact⟨_,rfl,hp.fld hf⟩,λw=>by simp[execOp,he,sU hT p hs w]⟩
def idx {α:Type} (xs:List α) (i:Int):Option α:=if 0≤i then xs[i.toNat]? else none
theorem iU {xs:List α} {i:Int} (h:idx xs i=some x):0≤i∧i<xs.length∧xs[i.toNat]? =some x:=by unfold idx at h;split at h;rename_i h0;have:=(FN.1 h).1;exact⟨h0,by omega,h⟩;cases h
theorem pg {m':Nat} (hT:P.underlying T=some (.slice e)) (hs:(P.info? e).map (·.size)=some m') {p:Addr} {m c:Nat} {i:Int} (h0:0≤i) (h1:i<m) (hp:p.spot=none) (w:World):(Instr.indexAt T (.slice (some p) m c) (.int q i)).run P w= .ok (.pointer (some ⟨p.block,p.off+i.toNat*m',none⟩)) w:=by(have hadd:p.add (i.toNat*m')=⟨p.block,p.off+i.toNat*m',none⟩:=by obtain⟨b,off,sp⟩:=p;simp only at hp;subst hp;exact Gp b off _);simp[Instr.indexAt,asIntOf,FY hT,cP hs,h0,h1,hadd]
theorem JN {α:Type} {K:Kd α} {T e:TypeId} {X I:Operand} {xs:List α} {x:α} {q:IntKind} {i:Int} (hx:idx xs i=some x) (hT:P.underlying T=some (.slice e)) (hs:(P.info? e).map (·.size)=some K.n) (hX:ev E X=some s) (hr:rdOf s (kSl K) xs) (hI:ev E I=some (.raw (.int q i))):OpV P n E L ⟨some d,.indexAddr T X I,ty,pos,aft,none⟩ (.ptr K x):=JX λF a hE=>by obtain⟨a0,cap,he,hat⟩:=kSl.at_ (hr F _ (hE.eval hX));obtain⟨h0,h1,hx⟩:=iU hx;obtain⟨p,rfl,hp,hrd⟩:=hat _ _ hx;exact⟨.pointer (some ⟨p.block,p.off+i.toNat*K.n,none⟩),by simp only[SV.ok];exact⟨_,rfl,hrd⟩,λw=>by simp[execOp,he,hE.raw hI,pg hT hs h0 h1 hp w]⟩
theorem pi (hT:P.underlying T=some (.array m e)) (hs:(P.info? e).map (·.size)=some m') {p:Addr} {i:Int} (h0:0≤i) (h1:i<m) (hp:p.spot=none) (w:World):(Instr.indexAt T (.pointer (some p)) (.int q i)).run P w= .ok (.pointer (some ⟨p.block,p.off+i.toNat*m',none⟩)) w:=by(have hadd:p.add (i.toNat*m')=⟨p.block,p.off+i.toNat*m',none⟩:=by obtain⟨b,off,sp⟩:=p;simp only at hp;subst hp;exact Gp b off _);simp[Instr.indexAt,asIntOf,FY hT,cP hs,h0,h1,hadd,Instr.sureAddr]
theorem JI {K:Kd α} {xs:List α} {i:Int} (hx:idx xs i=some x) (hT:P.underlying T=some (.array m e)) (hs:(P.info? e).map (·.size)=some K.n) (hX:ev E X=some (.ptr (kArr m K) xs)) (hI:ev E I=some (.raw (.int q i))):OpV P n E L ⟨some d,.indexAddr T X I,ty,pos,aft,none⟩ (.ptr K x):=JX λF a hE=>by have:=hE.eval hX;simp only[SV.ok] at this;obtain⟨p,he,hu⟩:=this;obtain⟨h0,h1,hx⟩:=iU hx;obtain⟨_,_,_,hp,_,_,hr⟩:=hu.out;have hm:xs.length=m:=hr.1;exact⟨.pointer (some ⟨p.block,p.off+i.toNat*K.n,none⟩),by simp only[SV.ok];exact⟨_,rfl,hu.arr hx⟩,λw=>by simp[execOp,he,hE.raw hI,pi hT hs h0 (by omega) hp w]⟩
def evs (E:List (Nat×SV)):List Operand→Option (List SV)|[]=>some []|x::xs=>match ev E x,evs E xs with|some s,some l=>some (s::l)|_,_=>none
theorem Ky {a:Act} (hE:Env F a n E):∀{xs:List Operand} {l:List SV},evs E xs=some l→SV.oks F (xs.map a.eval) l|[],l,h=>by cases h;simp only[Hl,SV.oks]|x::xs,l,h=>by simp only[evs] at h;split at h;rename_i s l' h1 h2;cases h;simp only[Ge,SV.oks];exact⟨hE.eval h1,Ky hE h2⟩;cases h
theorem Under.call {f:FuncId} {X:Operand} {xs:List Operand} {tys:Array TypeId} {l:List SV} {L':List Res} (hc:∀args w,(callFunc f args).run P w= .ok (.enter f args) w) (hX:ev E X=some (.raw (.func (.func f) #[] #[]))) (hx:evs E xs=some l) (ho:Ok P f l L s L') (hd:Nat.blt d n=true) (k:Under F0 n ((d,s)::E) L' (wpList P ops Q rest)):Under F0 n E L (wpList P ops Q (⟨some d,.call ⟨.value X,xs.toArray,tys⟩,ty,pos,aft,none⟩::rest)):=JE rfl λF a w h0 hE hS=>by have hv:=Ky hE hx;have h1:=ho F w _ hv hS;unfold Oper.wp;simp only[execOp,resolve,hE.raw hX,Deferred.ofValue,invoke,G4,FV,F3,FQ,Hy,Ie];rw[hc];exact h1.mono λe w' ⟨G,v,he,hg,hS',hok⟩=>by subst he;exact k G _ _ (Ki h0 hg) ((hE.mono hg).put hd hok) hS'
theorem OpV.call {f:FuncId} {X:Operand} {xs:List Operand} {tys:Array TypeId} {l:List SV} {v:Value} (hc:∀args w,(callFunc f args).run P w= .ok (.enter f args) w) (hX:ev E X=some (.raw (.func (.func f) #[] #[]))) (hx:evs E xs=some l) (ho:∀L,Ok P f l L (.raw v) L):OpV P n E L ⟨some d,.call ⟨.value X,xs.toArray,tys⟩,ty,pos,aft,none⟩ (.raw v):=λF a hE=>by refine⟨v,by simp only[SV.ok],λw ⟨G0,hg0,hS⟩=>?_⟩;have hv:=Ky (hE.mono hg0) hx;have h1:=ho L G0 w _ hv hS;unfold Oper.quietAt;simp only[execOp,resolve,hE.raw hX,Deferred.ofValue,invoke,G4,FV,F3,FQ,Hy,Ie];rw[hc];refine⟨rfl,h1.mono λe w' ⟨G,u,he,hg,hS',hok⟩=>?_⟩;simp only[SV.ok] at hok;subst hok;exact⟨he,G,Ki hg0 hg,hS'⟩
end
end Go.Sim
namespace Go.Sim
open Go
structure Pl {β α:Type} (K0:Kd β) (off:Nat) (K:Kd α) (g:β→Option α) (st:β→α→β):Prop where
 get:∀{F cs x y},K0.rd F cs x→g x=some y→off+K.n≤cs.length∧K.rd F ((cs.drop off).take K.n) y
 set:∀{F cs x c y z},K0.rd F cs x→g x=some z→K.rd F c y→K0.rd F (cs.take off++c++cs.drop (off+K.n)) (st x y)
theorem Pl.id {K0:Kd β}:Pl K0 0 K0 some (λ_ y=>y) where
 get:=λh e=>by cases e;have:=K0.len h;simp only[Gf,G9];rw[←this,Gm];exact⟨F9 _,h⟩
 set:=λh _ hy=>by have:=K0.len h;simpa[←this] using hy
theorem rdF.set:∀{fs:List (Fld β)} {cs c:List Value} {x x':β} {i:Nat} {f:Fld β},rdF F fs cs x→fs[i]? =some f→f.K.rd F c (f.get x')→(∀j g,fs[j]? =some g→j≠i→g.get x'=g.get x)→rdF F fs (cs.take (offF fs i)++c++cs.drop (offF fs i+f.K.n)) x'|[],_,_,_,_,_,_,_,h,_,_=>by cases h|g::fs,cs,c,x,x',0,f,⟨c0,d,e,h,r⟩,hf,hy,ho=>by cases hf;subst e;have hl:=g.K.len h;simp only[offF,HK,F8,Gf];rw[←hl,IS];refine⟨c,d,rfl,hy,?_⟩;(have:∀(fs:List (Fld β)) (d:List Value),(∀g∈fs,g.get x'=g.get x)→rdF F fs d x→rdF F fs d x':=by intro fs;induction fs with|nil=>intro d _ h;exact h|cons g fs ih=>intro d hg ⟨c1,d1,e,h,r⟩;exact⟨c1,d1,e,by rw[hg g (by simp)];exact h,ih d1 (λg hg'=>hg g (by simp[hg'])) r⟩);refine this fs d (λq hq=>?_) r;obtain⟨j,hj⟩:=List.getElem?_of_mem hq;exact ho (j+1) q (by simpa using hj) (by omega)|g::fs,cs,c,x,x',i+1,f,⟨c0,d,e,h,r⟩,hf,hy,ho=>by subst e;have hl:=g.K.len h;have ih:=rdF.set r (i:=i) (f:=f) (x':=x') (by simpa using hf) hy (λj q hq hj=>ho (j+1) q (by simpa using hq) (by omega));simp only[offF];rw[←hl,Il,Jo,Ij];refine⟨c0,_,by simp,?_,ih⟩;rw[ho 0 g rfl (by omega)];exact h
def butF {β:Type} (x x':β):List (Fld β)→Nat→Prop|[],_=>True|g::fs,0=>(∀q∈fs,q.get x'=q.get x)|g::fs,i+1=>g.get x'=g.get x∧butF x x' fs i
theorem butF.spec:∀{fs:List (Fld β)} {i:Nat},butF x x' fs i→∀j g,fs[j]? =some g→j≠i→g.get x'=g.get x|[],_,_,j,g,h,_=>by cases h|q::fs,0,hb,j,g,h,hj=>(by cases j with|zero=>exact absurd rfl hj|succ j=>exact hb g (Gn (by simpa using h)))|q::fs,i+1,hb,j,g,h,hj=>by cases j with|zero=>cases h;exact hb.1|succ j=>exact butF.spec hb.2 j g (by simpa using h) (by omega)
theorem splice2 {cs:List Value} (h:u+q≤m):cs.take o++(((cs.drop o).take m).take u++c++((cs.drop o).take m).drop (u+q))++cs.drop (o+m)=cs.take (o+u)++c++cs.drop (o+u+q):=by rw[HW,GE (by omega),HX];have h1:cs.take (o+u)=cs.take o++(cs.drop o).take u:=H5;(have h2:cs.drop (o+u+q)=((cs.drop o).drop (u+q)).take (m - (u+q))++cs.drop (o+m):=by have e:=GJ (m - (u+q)) ((cs.drop o).drop (u+q));rw[GI,GI,show o+(u+q)+(m - (u+q))=o+m by omega,←Jo] at e;rw[GI,←Jo];exact e.symm);rw[h1,h2];simp only[F6]
theorem Pl.fld {β γ:Type} {K0:Kd β} {o:Nat} {fs:List (Fld γ)} {g:β→Option γ} {st:β→γ→β} (p:Pl K0 o (kSt fs) g st) {i:Nat} {f:Fld γ} (hf:fs[i]? =some f) (s1:γ→f.α→γ)
  (h1:∀x y,f.get (s1 x y)=y) (h2:∀x y,butF x (s1 x y) fs i):
  Pl K0 (o+offF fs i) f.K (λx=>(g x).map f.get) (λx y=>match g x with|some z=>st x (s1 z y)|none=>x) where
 get:=λ{F cs x y} h e=>by
  obtain⟨z,hz,rfl⟩:=Gs.1 e
  obtain⟨a,b⟩:=p.get h hz
  obtain⟨a',b'⟩:=rdF.get b hf
  have hn:((List.drop o cs).take (kSt fs).n).length=(kSt fs).n:=by simp only[Ga,Gh];omega
  rw[hn] at a'
  refine⟨by omega,?_⟩
  rwa [eS a'] at b'
 set:=λ{F cs x c y z'} h e hy=>by
  obtain⟨z,hz,rfl⟩:=Gs.1 e
  obtain⟨a,b⟩:=p.get h hz
  obtain⟨a',b'⟩:=rdF.get b hf
  have hn:((List.drop o cs).take (kSt fs).n).length=(kSt fs).n:=by simp only[Ga,Gh];omega
  rw[hn] at a'
  have hs:=rdF.set b hf (x':=s1 z y) (by rw[h1];exact hy) (butF.spec (h2 z y))
  have:=p.set h hz (c:=_) (y:=s1 z y) hs
  simp only[hz]
  refine cast (congrArg (λl=>K0.rd F l _) ?_) this
  exact splice2 a'
theorem Pl.ix {K0:Kd β} {K:Kd α} (p:Pl K0 o (kArr m K) g st) (i:Nat):
  Pl K0 (o+i*K.n) K (λx=>(g x).bind λxs=>xs[i]?) (λx y=>match g x with|some xs=>st x (xs.set i y)|none=>x) where
 get:=λh e=>by
  obtain⟨xs,hz,e⟩:=Gw.1 e
  obtain⟨a,hl,b⟩:=p.get h hz
  have hi:i<xs.length:=(FN.1 e).1
  have h1:(i+1)*K.n≤m*K.n:=FS _ (by omega)
  rw[Gx] at h1
  have a':o+m*K.n≤_:=a
  refine⟨by omega,?_⟩
  have:=b.get e
  rwa [show(kArr m K).n=m*K.n from rfl,eS (by omega)] at this
 set:=λ{F cs x c y z'} h e hy=>by
  obtain⟨xs,hz,e⟩:=Gw.1 e
  obtain⟨a,hl,b⟩:=p.get h hz
  have hi:i<xs.length:=(FN.1 e).1
  have hs:=b.set hi hy
  have:=p.set h hz (c:=_) (y:=xs.set i y) ⟨by simpa using hl,hs⟩
  simp only[hz]
  refine cast (congrArg (λl=>K0.rd F l _) ?_) this
  have h1:(i+1)*K.n≤m*K.n:=FS _ (by omega)
  rw[Gx] at h1
  exact splice2 (u:=i*K.n) (q:=K.n) (m:=m*K.n) h1
section
variable {P:Program} {ops:Array Oper} {Q:Exit→Act→World→Prop} {rest:List Oper} {F0:Fz} {n:Nat} {E:List (Nat×SV)} {L:List Res}
variable {d:Nat} {op:Op} {ty:TypeId} {pos:String} {aft:Array Edge} {s:SV}
theorem lx (o:Obj) (w:World):(newObj o).run P w= .ok w.heap.size (w.alloc o):=rfl
theorem jU (w:World) (o:Obj):Chg w (w.alloc o) Frag.emp:=⟨rfl,rfl,rfl,λb hb _=>Iq w o b hb⟩
theorem kY (w:World) (o:Obj):(∀b,Frag.one w.heap.size o b≠none→w.heap.size≤b)∧∀b q,Frag.one w.heap.size o b=some q→(w.alloc o).heap[b]? =some q:=⟨λb hb=>by by_cases h:b=w.heap.size;omega;exact absurd (JZ o h) hb,λb q h=>by obtain⟨rfl,rfl⟩:=JT h;exact heap_alloc_new w _⟩
theorem Mv {K:Kd α} (hX:ev E X=some s) (hr:rdOf s K x) (hd:Nat.blt d n=true) (k:Under F0 n ((d,.ptr K x)::E) L (wpList P ops Q rest)):
  Under F0 n E L (wpList P ops Q (⟨some d,.box T X,ty,pos,aft,none⟩::rest)):=
 JE rfl λF a w h0 hE hS=>by
  have hv:=hr F _ (hE.eval hX)
  obtain⟨hn1,hn2⟩:=kY w (.cells (a.eval X).cells T)
  obtain⟨hle,hS'⟩:=Lp hS (Frag.one w.heap.size (.cells (a.eval X).cells T)) (jU w _) hn1 hn2
  have hp:RdAt (F.add (Frag.one w.heap.size (.cells (a.eval X).cells T))) ⟨w.heap.size,0,none⟩ K x:=by
   refine⟨(a.eval X).cells,T,(0,0),rfl,?_,by have:=hv.sizeEq;simp only[Gf];omega,?_⟩
   · have:=hS.on;simp only[Fz.add]
     rw[StG.fresh hS _ (F9 _)];exact Ju _ _
   · have h1:=hv.rd;have h2:=K.len h1
     simp only[G9];rw[←h2,Gm];exact K.mono hle h1
  have hrun:(execOp a.eval (⟨some d,.box T X,ty,pos,aft,none⟩:Oper)).run P w= .ok (.value (.pointer (some ⟨w.heap.size,0,none⟩))) (w.alloc (.cells (a.eval X).cells T)):=by
   simp[execOp,Instr.box,newVar,newRow,lx]
  unfold Oper.wp;rw[hrun]
  exact k _ _ _ (Ki h0 hle) ((hE.mono hle).put hd (by simp only[SV.ok];exact⟨_,rfl,hp⟩)) hS'
theorem JY (hX:ev E X=some s) (hr:rdOf s K x) (hd:Nat.blt d n=true) (k:∀b,Under F0 n ((d,.raw (.pointer (some ⟨b,0,none⟩)))::E) (.box K b T x::L) (wpList P ops Q rest)):Under F0 n E L (wpList P ops Q (⟨some d,.box T X,ty,pos,aft,none⟩::rest)):=JE rfl λF a w h0 hE hS=>by have hv:=hr F _ (hE.eval hX);obtain⟨hn1,hn2⟩:=kY w (.cells (a.eval X).cells T);have hS':St F (w.alloc (.cells (a.eval X).cells T)) (.box K w.heap.size T x::L):=KU hS _ ⟨_,hv.rd,by simp⟩ (jU w _) hn1 hn2;(have hrun:(execOp a.eval (⟨some d,.box T X,ty,pos,aft,none⟩:Oper)).run P w= .ok (.value (.pointer (some ⟨w.heap.size,0,none⟩))) (w.alloc (.cells (a.eval X).cells T)):=by simp[execOp,Instr.box,newVar,newRow,lx]);unfold Oper.wp;rw[hrun];exact k _ _ _ _ h0 (hE.put hd (by simp only[SV.ok])) hS'
def ZT {α:Type} (P:Program) (T:TypeId) (K:Kd α) (z:α):Prop:=∃v,(P.info? T).bind (·.zero)=some v∧∀F,K.rd F v.cells.toList z
theorem kn (h:(P.info? T).bind (·.zero)=some v) (w:World):(zeroValue T).run P w= .ok v w:=by obtain⟨i,hi,hz⟩:=Gw.1 h;simp[zeroValue,typeInfo,hi,hz]
theorem MM (hz:ZT P T K z) (hd:Nat.blt d n=true) (k:∀b,Under F0 n ((d,.raw (.pointer (some ⟨b,0,none⟩)))::E) (.box K b T z::L) (wpList P ops Q rest)):Under F0 n E L (wpList P ops Q (⟨some d,.alloc T,ty,pos,aft,none⟩::rest)):=JE rfl λF a w h0 hE hS=>by obtain⟨v,hv,hrd⟩:=hz;obtain⟨hn1,hn2⟩:=kY w (.cells v.cells T);have hS':St F (w.alloc (.cells v.cells T)) (.box K w.heap.size T z::L):=KU hS _ ⟨_,hrd F,by simp⟩ (jU w _) hn1 hn2;(have hrun:(execOp a.eval (⟨some d,.alloc T,ty,pos,aft,none⟩:Oper)).run P w= .ok (.value (.pointer (some ⟨w.heap.size,0,none⟩))) (w.alloc (.cells v.cells T)):=by simp[execOp,Instr.alloc,kn hv,newVar,newRow,lx]);unfold Oper.wp;rw[hrun];exact k _ _ _ _ h0 (hE.put hd (by simp only[SV.ok])) hS'
theorem Mw {K:Kd α} (ht:look E t=some (.raw (.pointer (some ⟨b,0,none⟩)))) (k:Under F0 n ((t,.ptr K x)::E) L X):
   Under F0 n E (.box K b T x::L) X:=λF a w h0 hE hS=>by
 obtain⟨h,⟨cs,hrd,rfl⟩,hap,hle,hS'⟩:=hS.freeze
 have hbn:F.blk b=none:=hap b (by rw[Ju];simp)
 have hp:RdAt (F.add (Frag.one b (.cells cs.toArray T (0,0)))) ⟨b,0,none⟩ K x:=by
   have h2:=K.len hrd
   refine⟨cs.toArray,T,(0,0),rfl,?_,by simp;omega,?_⟩
   · simp only[Fz.add,hbn];exact Ju _ _
   · simp only[G9];rw[←h2,Gm];exact hrd
 refine k _ a w (Ki h0 hle) ⟨hE.defers,hE.size,λu r e=>?_⟩ hS'
 rw[ck] at e;split at e
 · rename_i hk;subst hk;cases e
   obtain⟨v,h1,h2⟩:=hE.at_ t _ ht
   simp only[SV.ok] at h2;subst h2
   exact⟨_,h1,by simp only[SV.ok];exact⟨_,rfl,hp⟩⟩
 · exact(hE.mono hle).at_ u r e
theorem ro (hT:(P.info? T).map (·.size)=some m) {w:World} {cs:List Value} (hb:w.heap[b]? =some (.cells cs.toArray e (0,0))) {v:Value} (hv:v.cells.size=m) (h1:∀u∈v.cells.toList,u.oneCell'=true) (hle:off+m≤cs.length):∃w',(Instr.storeAt T (.pointer (some ⟨b,off,none⟩)) v).run P w= .ok () w'∧w'.heap[b]? =some (.cells (cs.take off++v.cells.toList++cs.drop (off+m)).toArray e (0,0))∧Chg w w' (Frag.one b (.cells cs.toArray e (0,0))):=by(have hl:v.cells.toList.length=m:=by simpa using hv);have hst:=run_storeCells_at P b off e v.cells.toList 0 cs.toArray w hb (by simp;omega) h1;simp only[HQ,hl] at hst;refine⟨w.setRow b (cs.take off++v.cells.toList++cs.drop (off+m)).toArray,?_,setRow_heap w b cs.toArray _ e _ hb,⟨rfl,rfl,rfl,λk hk hn=>setRow_other w b k _ (λe=>by rw[e,Ju] at hn;cases hn)⟩⟩;simp only[Instr.storeAt,Instr.sureAddr,FV,F3,FQ,storeVar,cP hT,hv];simpa using hst
end
end Go.Sim
namespace Go.Sim
open Go
section
variable {P:Program} {ops:Array Oper} {Q:Exit→Act→World→Prop} {rest:List Oper} {F0:Fz} {n:Nat} {E:List (Nat×SV)} {L:List Res}
variable {d:Nat} {op:Op} {ty:TypeId} {pos:String} {aft:Array Edge} {s:SV}
theorem Mc (h:look E t=some (.val (kInt k) x)) (kk:Under F0 n ((t,.raw (.int k x))::E) L X):Under F0 n E L X:=λF a w h0 hE hS=>kk F a w h0 ⟨hE.defers,hE.size,λu r e=>by rw[ck] at e;split at e;rename_i hk;subst hk;cases e;obtain⟨v,h1,h2⟩:=hE.at_ t _ h;exact⟨v,h1,by simp only[SV.ok] at*;exact lN.1 h2⟩;exact hE.at_ u r e⟩ hS
theorem Md (h:look E t=some (.val mN x)) (kk:Under F0 n ((t,.raw (.bool x))::E) L X):Under F0 n E L X:=λF a w h0 hE hS=>
 kk F a w h0 ⟨hE.defers,hE.size,λu r e=>by
  rw[ck] at e;split at e
  · rename_i hk;subst hk;cases e
    obtain⟨v,h1,h2⟩:=hE.at_ t _ h
    exact⟨v,h1,by simp only[SV.ok] at*;exact vl.1 h2⟩
  · exact hE.at_ u r e⟩ hS
 class Det {α:Type} (K:Kd α):Prop where
 det:∀{F G cs ds x},K.rd F cs x→K.rd G ds x→cs=ds
instance {k:IntKind}:Det (kInt k):=⟨λh h'=>by cases h;cases h';rfl⟩
instance:Det mN:=⟨λh h'=>by cases h;cases h';rfl⟩
theorem bi.det {α:Type} {K:Kd α} [Det K]:∀{xs:List α} {F G:Fz} {cs ds:List Value},bi K F cs xs→bi K G ds xs→cs=ds|[],_,_,_,_,h,h'=>by cases h;cases h';rfl|x::xs,_,_,_,_,⟨c,d,e,h,r⟩,⟨c',d',e',h',r'⟩=>by subst e;subst e';rw[Det.det h h',bi.det r r']
instance {α:Type} {m:Nat} {K:Kd α} [Det K]:Det (kArr m K):=⟨λh h'=>bi.det h.2 h'.2⟩
theorem J3 (hT:fldB P T i=some (o,m+1)) (hX:ev E X=some (.raw (.pointer (some ⟨b,off,none⟩)))):OpV P n E L ⟨some d,.fieldAddr T X i,ty,pos,aft,none⟩ (.raw (.pointer (some ⟨b,off+o,none⟩))):=JW λF a hE w=>by simp[execOp,hE.raw hX,sU hT ⟨b,off,none⟩ rfl w]
inductive Bld {β:Type} (E:List (Nat×SV)) (fs:List (Fld β)):List (Nat×Operand)→β→β→Prop where
 |nil (x:β):Bld E fs [] x x
 |cons {i:Nat} {X:Operand} {ps:List (Nat×Operand)} {x x' y:β} {f:Fld β} {s:SV} (hf:fs[i]? =some f) (hX:ev E X=some s) (hr:rdOf s f.K (f.get x')) (hb:butF x x' fs i) (r:Bld E fs ps x' y):Bld E fs ((i,X)::ps) x y
end
end Go.Sim
namespace Go.Sim
open Go
section
variable {P:Program} {ops:Array Oper} {Q:Exit→Act→World→Prop} {rest:List Oper} {F0:Fz} {n:Nat} {E:List (Nat×SV)} {L:List Res}
variable {d:Nat} {op:Op} {ty:TypeId} {pos:String} {aft:Array Edge} {s:SV}
theorem Aj:∀(vs:List Value) (j o:Nat) (cells:Array Value),o+j+vs.length≤cells.size→(vs.zipIdx j).foldl (λcs p=>cs.setIfInBounds (o+p.2) p.1) cells=(cells.toList.take (o+j)++vs++cells.toList.drop (o+j+vs.length)).toArray|[],j,o,cells,h=>by simp|v::vs,j,o,cells,h=>by simp only[List.zipIdx_cons,GF];simp only[F2] at h;rw[Aj vs (j+1) o _ (by simp;omega)];congr 1;(have hlt:o+j<cells.size:=by omega);simp only[Array.toList_setIfInBounds,F2];(have e1:(cells.toList.set (o+j) v).take (o+(j+1))=cells.toList.take (o+j)++[v]:=by rw[Hi,Gz (by simpa using hlt)];rw[show o+(j+1)=(cells.toList.take (o+j)).length+1 by simp;omega,Il];simp);(have e2:(cells.toList.set (o+j) v).drop (o+(j+1)+vs.length)=cells.toList.drop (o+j+(vs.length+1)):=by rw[List.drop_set_of_lt (by omega)];congr 1;omega);rw[e1,e2];simp
theorem Ak {place:Nat→Option (Nat×Nat)} {i o m:Nat} {cells:Array Value} {v:Value} {rest:List (Nat×Value)} (hp:place i=some (o,m)) (hv:v.cells.size=m) (hle:o+m≤cells.size):Instr.fill place cells ((i,v)::rest)=Instr.fill place (cells.toList.take o++v.cells.toList++cells.toList.drop (o+m)).toArray rest:=by unfold Instr.fill;simp only[hp];rw[Gt (by simp[hv];omega)];have h:=Aj v.cells.toList 0 o cells (by simp;omega);simp only[HQ,G1,hv] at h;rw[←h];(have:(v.cells.zipIdx.foldl (λcs (x:Value×Nat)=>match x with|(c,j)=>cs.setIfInBounds (o+j) c) cells)=(v.cells.toList.zipIdx 0).foldl (λcs p=>cs.setIfInBounds (o+p.2) p.1) cells:=by rw[←Array.foldl_toList,Array.toList_zipIdx]);rw[this];cases rest<;>rfl
theorem D2 {β:Type} {fs:List (Fld β)} {place:Nat→Option (Nat×Nat)} (hp:∀i f,fs[i]? =some f→place i=some (offF fs i,f.K.n)) {F:Fz} {a:Act} (hE:Env F a n E):
  ∀{ps:List (Nat×Operand)} {x y:β} {cells:Array Value},Bld E fs ps x y→rdF F fs cells.toList x→∃r,Instr.fill place cells (ps.map λp=>(p.1,a.eval p.2))=some r∧rdF F fs r.toList y:=by
 intro ps x y cells hb
 induction hb generalizing cells with
 |nil x=>intro h;exact⟨cells,by simp[Instr.fill],h⟩
 |@cons i X ps x x' y f s hf hX hr hb r ih=>
  intro h
  have hv:=hr F _ (hE.eval hX)
  have hle:=(rdF.get h hf).1
  rw[Ge,Ak (hp i f hf) hv.sizeEq (by simpa using hle)]
  exact ih (by simpa using rdF.set h hf hv.rd (butF.spec hb))
structure BT {β:Type} (P:Program) (T:TypeId) (fs:List (Fld β)) (z:β):Prop where
 out:∃it zv ff pl,P.info? T=some it∧it.zero=some zv∧P.underlying T=some (.struct ff)∧ff.toList.mapM (λf=>(P.info? f.type).map λi=>(f.offset,i.size))=some pl∧
  (∀i f,fs[i]? =some f→pl[i]? =some (offF fs i,f.K.n))∧∀F,rdF F fs zv.cells.toList z
theorem Jx {β:Type} {fs:List (Fld β)} {T:TypeId} {ps:List (Nat×Operand)} {z y:β} (hT:BT P T fs z) (hb:Bld E fs ps z y):OpV P n E L ⟨some d,.build T ps.toArray,ty,pos,aft,none⟩ (.val (kSt fs) y):=JX λF a hE=>by obtain⟨it,zv,ff,pl,h1,h2,h3,h4,h5,h6⟩:=hT.out;obtain⟨r,hr,hrd⟩:=D2 (place:=λi=>pl.toArray[i]?) (λi f hf=>by simpa using h5 i f hf) hE hb (h6 F);refine⟨.agg r,by simp only[SV.ok];exact⟨r.toList,hrd,by simp[pack,kSt]⟩,λw=>?_⟩;(have hbt:P.built T (ps.map λp=>(p.1,a.eval p.2))=some r:=by unfold Program.built;simp only[h1,h3,h2,h4];exact hr);have:=run_build (P:=P) w T (ps.map λp=>(p.1,a.eval p.2)).toArray r (by simpa using hbt);simp only[execOp,G4,this,FV,FQ,F3]
inductive BldA {α:Type} (E:List (Nat×SV)) (K:Kd α):List (Nat×Operand)→List α→List α→Prop where
 |nil (xs:List α):BldA E K [] xs xs
 |cons {i:Nat} {X:Operand} {ps:List (Nat×Operand)} {xs ys:List α} {y:α} {s:SV} (hi:Nat.blt i xs.length=true) (hX:ev E X=some s) (hr:rdOf s K y) (r:BldA E K ps (xs.set i y) ys):BldA E K ((i,X)::ps) xs ys
theorem sg {α:Type} {K:Kd α} {F:Fz} {a:Act} (hE:Env F a n E):
  ∀{ps:List (Nat×Operand)} {xs ys:List α} {cells:Array Value},BldA E K ps xs ys→bi K F cells.toList xs→∃r,Instr.fill (λi=>some (i*K.n,K.n)) cells (ps.map λp=>(p.1,a.eval p.2))=some r∧bi K F r.toList ys:=by
 intro ps xs ys cells hb
 induction hb generalizing cells with
 |nil x=>intro h;exact⟨cells,by simp[Instr.fill],h⟩
 |@cons i X ps xs ys y s hi hX hr r ih=>
  intro h
  have hi':i<xs.length:=by simpa[Hp] using hi
  have hv:=hr F _ (hE.eval hX)
  have hl:=h.len
  have h1:(i+1)*K.n≤xs.length*K.n:=FS _ (by omega)
  rw[Gx] at h1
  have hle:i*K.n+K.n≤cells.size:=by simp only[G1] at hl;omega
  rw[Ge,Ak rfl hv.sizeEq hle]
  exact ih (by simpa using h.set hi' hv.rd)
theorem BldA.len {xs ys:List α} (h:BldA E K ps xs ys):ys.length=xs.length:=by induction h with|nil=>rfl|cons hi hX hr r ih=>simpa using ih
structure BTA {α:Type} (P:Program) (T:TypeId) (m:Nat) (K:Kd α) (z:List α):Prop where
 out:∃it zv e ie,P.info? T=some it∧it.zero=some zv∧P.underlying T=some (.array m e)∧P.info? e=some ie∧ie.size=K.n∧z.length=m∧∀F,bi K F zv.cells.toList z
theorem Ko {ps:List (Nat×Operand)} (hT:BTA P T m K z) (hb:BldA E K ps z ys):OpV P n E L ⟨some d,.build T ps.toArray,ty,pos,aft,none⟩ (.val (kArr m K) ys):=JX λF a hE=>by obtain⟨it,zv,e,ie,h1,h2,h3,h4,h5,h6,h7⟩:=hT.out;obtain⟨r,hr,hrd⟩:=sg hE hb (h7 F);refine⟨.agg r,by simp only[SV.ok];exact⟨r.toList,⟨by rw[hb.len,h6],hrd⟩,by simp[pack,kArr]⟩,λw=>?_⟩;(have hbt:P.built T (ps.map λp=>(p.1,a.eval p.2))=some r:=by unfold Program.built;simp only[h1,h3,h2,h4,h5];exact hr);have:=run_build (P:=P) w T (ps.map λp=>(p.1,a.eval p.2)).toArray r (by simpa using hbt);simp only[execOp,G4,this,FV,FQ,F3]
theorem nb {K:Kd α} (hz:K.rd F cs z):∀m,bi K F ((List.replicate m cs).flatten) (List.replicate m z)|0=>rfl|m+1=>by rw[GU,H3,GU];exact⟨cs,_,rfl,hz,nb hz m⟩
theorem sV (cs:List Value) (hc:0<cs.length):∀(m i:Nat),i<m*cs.length→((List.replicate m cs).flatten)[i]? =cs[i%cs.length]?|0,i,h=>by omega|m+1,i,h=>by rw[GU,H3,G6];rw[Gx] at h;split;rename_i h1;rw[Iv h1];rename_i h1;rw[sV cs hc m (i - cs.length) (by omega)];rw[←Nat.mod_eq_sub_mod (by omega)]
theorem Al (z:Array Value) (m:Nat) (hz:0<z.size):((Array.range (m*z.size)).map (z[· %z.size]!)).toList=(List.replicate m z.toList).flatten:=by apply HM;intro i;by_cases hi:i<m*z.size;rw[sV z.toList (by simpa using hz) m i (by simpa using hi)];have hm:i%z.size<z.size:=I0 _ hz;simp[hi,hm];rw[GS (by simp;omega),GS];(have:((List.replicate m z.toList).flatten).length=m*z.size:=by simp);omega
structure ET {α:Type} (P:Program) (e:TypeId) (K:Kd α) (z:α):Prop where
 out:∃ie zv,P.info? e=some ie∧ie.zero=some zv∧ie.size=K.n∧0<K.n∧∀F,K.rd F zv.cells.toList z
theorem D3 {K:Kd α} {ps:List (Nat×Operand)} (hT:P.underlying T=some (.slice e)) (he:ET P e K z) (hb:BldA E K ps (List.replicate m z) ys) (hm:Nat.ble (m*K.n) 16777216=true) {a:Act} (hE:Env F a n E) (w:World):∃cells:Array Value,(execOp a.eval (⟨some d,.buildSlice T m ps.toArray,ty,pos,aft,none⟩:Oper)).run P w= .ok (.value (.slice (some ⟨w.heap.size,0,none⟩) m m)) (w.alloc (.cells cells e))∧bi K F cells.toList ys:=by obtain⟨ie,zv,h1,h2,h3,h4,h5⟩:=he.out;(have hzs:zv.cells.size=K.n:=by have:=K.len (h5 F);simpa using this);(have hz0:(sizeOf e).run P w= .ok K.n w:=by simp[sizeOf,typeInfo,h1,h3]);(have hbig:¬m*K.n>2^24:=by have:=Hb hm;omega);by_cases hm0:m=0;subst hm0;obtain⟨r,hr,hrd⟩:=sg (cells:=#[]) hE hb rfl;refine⟨r,?_,hrd⟩;(have hc:(Array.map (λx=>(default:Value)) (Array.range 0))=#[]:=by simp);simp[execOp,Instr.buildSlice,FY hT,hz0,newRow,hc,hr];(have hpos:¬m*K.n=0:=by have:0<m*K.n:=Nat.mul_pos (by omega) h4;omega);have hz:=Al zv.cells m (by omega);obtain⟨r,hr,hrd⟩:=sg (cells:=(Array.range (m*K.n)).map (zv.cells[· %zv.cells.size]!)) hE hb (by rw[←hzs,hz];exact nb (h5 F) m);refine⟨r,?_,hrd⟩;have:=run_buildSlice (P:=P) w T e m (ps.map λp=>(p.1,a.eval p.2)).toArray r ie zv hT h1 h2 (by rw[h3];exact hbig) (by rw[h3];exact hpos) (by rw[h3];simpa using hr);simp only[execOp,G4,this,FV,FQ,F3]
theorem Mx {α:Type} {K:Kd α} {T e:TypeId} {z:α} {m:Nat} {ps:List (Nat×Operand)} {ys:List α} (hT:P.underlying T=some (.slice e)) (he:ET P e K z) (hb:BldA E K ps (List.replicate m z) ys) (hm:Nat.ble (m*K.n) 16777216=true) (hd:Nat.blt d n=true) (k:Under F0 n ((d,.val (kSl K) ys)::E) L (wpList P ops Q rest)):Under F0 n E L (wpList P ops Q (⟨some d,.buildSlice T m ps.toArray,ty,pos,aft,none⟩::rest)):=JE rfl λF a w h0 hE hS=>by obtain⟨cells,hrun,hrd⟩:=D3 (d:=d) (ty:=ty) (pos:=pos) (aft:=aft) hT he hb hm hE w;(have hl:ys.length=m:=by simpa using hb.len);obtain⟨hn1,hn2⟩:=kY w (.cells cells e);obtain⟨hle,hS'⟩:=Lp hS (Frag.one w.heap.size (.cells cells e)) (jU w _) hn1 hn2;(have hc:cells.size=m*K.n:=by have:=hrd.len;rw[hl] at this;simpa using this);unfold Oper.wp;rw[hrun];refine k _ _ _ (Ki h0 hle) ((hE.mono hle).put hd ?_) hS';simp only[SV.ok];refine⟨[.slice (some ⟨w.heap.size,0,none⟩) m m],⟨some ⟨w.heap.size,0,none⟩,m,by rw[hl],by rw[hl];exact F9 _,.inr ⟨⟨w.heap.size,0,none⟩,cells,e,(0,0),rfl,rfl,?_,by rw[hl];simp only;omega,?_⟩⟩,rfl⟩;simp only[Fz.add];rw[StG.fresh hS _ (F9 _)];exact Ju _ _;rw[G9,FZ (by rw[hl];simp;omega)];exact hrd.mono hle
theorem My {K:Kd α} {ps:List (Nat×Operand)} {ys:List α} (hT:P.underlying T=some (.slice e)) (he:ET P e K z) (hb:BldA E K ps (List.replicate m z) ys) (hm:Nat.ble (m*K.n) 16777216=true) (hd:Nat.blt d n=true) (k:∀v,Under F0 n ((d,.raw v)::E) (.own K v e ys::L) (wpList P ops Q rest)):Under F0 n E L (wpList P ops Q (⟨some d,.buildSlice T m ps.toArray,ty,pos,aft,none⟩::rest)):=JE rfl λF a w h0 hE hS=>by obtain⟨cells,hrun,hrd⟩:=D3 (d:=d) (ty:=ty) (pos:=pos) (aft:=aft) hT he hb hm hE w;(have hl:ys.length=m:=by simpa using hb.len);obtain⟨hn1,hn2⟩:=kY w (.cells cells e);(have hc:cells.size=m*K.n:=by have:=hrd.len;rw[hl] at this;simpa using this);obtain⟨_,_,_,_,_,hk0,_⟩:=he.out;(have hm':m≤maxLen:=by have h9:=Hb hm;have:m*1≤m*K.n:=Iz _ hk0;simp only[maxLen];omega);have hS':St F (w.alloc (.cells cells e)) (.own K (.slice (some ⟨w.heap.size,0,none⟩) m m) e ys::L):=KU hS (Frag.one w.heap.size (.cells cells e)) (.inr ⟨w.heap.size,m,cells,by rw[hl],rfl,by omega,hm',hc,by rw[hl,FZ (by simp;omega)];exact hrd⟩) (jU w _) hn1 hn2;unfold Oper.wp;rw[hrun];exact k _ _ _ _ h0 (hE.put hd (by simp only[SV.ok])) hS'
end
end Go.Sim
namespace Go.Sim
open Go
section
variable {P:Program} {ops:Array Oper} {Q:Exit→Act→World→Prop} {rest:List Oper} {F0:Fz} {n:Nat} {E:List (Nat×SV)} {L:List Res}
variable {d:Nat} {op:Op} {ty:TypeId} {pos:String} {aft:Array Edge} {s:SV}
theorem Under.after {x:Code} (A:(Act→World→Prop)→Prop) (hk:A K) (h:∀K',A K'→Under F0 n E L (x.wp P (Exit.then K' Q))):Under F0 n E L (x.wp P (Exit.then K Q)):=h K hk
def Js:=@Under.after
theorem Under.loop [Fu] {S R C:Type} {step:S→Option (Ctl S R)} {x0:S} {r:R} {c:Code} (c0:C) (Es:S→C→List (Nat×SV)) (Ls:S→C→List Res) (hrun:Loop.run step x0=some r)
  (hE:∀t v,look (Es x0 c0) t=some v→look E t=some v) (hL:L=Ls x0 c0)
  (round:∀x y o,step x=some o→(∀q,o= .done q→q=r)→Under F0 n (Es x y) (Ls x y) (c.wp P (Exit.then (λa w=>∃x' y' F,o= .next x'∧F0≤F∧Env F a n (Es x' y')∧St F w (Ls x' y')) Q))):
  Under F0 n E L ((Code.loop c).wp P Q):=λF a w h0 hE' hS=>by
 refine Ai hrun (λx a w=>∃y F,F0≤F∧Env F a n (Es x y)∧St F w (Ls x y)) ⟨c0,F,h0,hE'.sub hE,hL▸hS⟩ ?_
 intro x o a w ho hd ⟨y,F,h0,hE,hS⟩
 refine wp_mono (round x y o ho hd F a w h0 hE hS) (λe a w q=>?_)
 cases e with
 |normal=>obtain⟨x',y',F,he,hh⟩:=q;exact⟨x',he,y',F,hh⟩
 |_=>exact q
theorem Under.next {S R C:Type} {o:Ctl S R} {Es:S→C→List (Nat×SV)} {Ls:S→C→List Res} (x':S) (y':C) (ho:(some (Ctl.next x'):Option (Ctl S R))=some o) (hE:∀t v,look (Es x' y') t=some v→look E t=some v) (hL:L=Ls x' y'):Under F0 n E L (λa w=>∃x' y' F,o= .next x'∧F0≤F∧Env F a n (Es x' y')∧St F w (Ls x' y')):=λF a w h0 hE' hS=>⟨x',y',F,(Option.some.inj ho).symm,h0,hE'.sub hE,hL▸hS⟩
theorem am (ho:(some (Ctl.done q):Option (Ctl S R))=some o) (hd:∀q,o= .done q→q=r):q=r:=hd q (Option.some.inj ho).symm
theorem Lt (k:Under F0 n E L K):Under F0 n E L (Exit.then K Q .normal):=k
theorem MN {id:Nat} (k:Under F0 n E L (Q (.exit id))):Under F0 n E L (Exit.then K Q (.exit id)):=k
theorem L4 (k:Under F0 n E L (Q .ret)):Under F0 n E L (Exit.then K Q .ret):=k
theorem MO {id:Nat} (k:Under F0 n E L (Q .normal)):Under F0 n E L (Exit.inBlock id Q .normal):=k
theorem Jr {id:Nat} (k:Under F0 n E L (Q .ret)):Under F0 n E L (Exit.inBlock id Q .ret):=k
theorem MP {id:Nat} (k:Under F0 n E L (Q .normal)):Under F0 n E L (Exit.inBlock id Q (.exit id)):=λF a w h0 hE hS=>by show(if id=id then Q .normal a w else Q (.exit id) a w);rw[Gz rfl];exact k F a w h0 hE hS
theorem MQ {id id':Nat} (h:Nat.beq id' id=false) (k:Under F0 n E L (Q (.exit id'))):Under F0 n E L (Exit.inBlock id Q (.exit id')):=λF a w h0 hE hS=>by show(if id'=id then Q .normal a w else Q (.exit id') a w);rw[Gt (λe=>by subst e;simp at h)];exact k F a w h0 hE hS
theorem LJ (k:Under F0 n E (r1::r0::L) X):Under F0 n E (r0::r1::L) X:=Under.perm (List.Perm.swap _ _ _) k
theorem LK (k:Under F0 n E (r2::r0::r1::L) X):Under F0 n E (r0::r1::r2::L) X:=Under.perm ((List.Perm.cons _ (List.Perm.swap _ _ _)).trans (List.Perm.swap _ _ _)) k
theorem LL (k:Under F0 n E (r3::r0::r1::r2::L) X):Under F0 n E (r0::r1::r2::r3::L) X:=Under.perm ((List.Perm.cons _ ((List.Perm.cons _ (List.Perm.swap _ _ _)).trans (List.Perm.swap _ _ _))).trans (List.Perm.swap _ _ _)) k
theorem LM (k:Under F0 n E (r4::r0::r1::r2::r3::L) X):Under F0 n E (r0::r1::r2::r3::r4::L) X:=Under.perm ((List.Perm.cons _ ((List.Perm.cons _ ((List.Perm.cons _ (List.Perm.swap _ _ _)).trans (List.Perm.swap _ _ _))).trans (List.Perm.swap _ _ _))).trans (List.Perm.swap _ _ _)) k
theorem bsome {x:Option α} (h:x.bind f=some r):∃a,x=some a∧f a=some r:=Gw.1 h
theorem gsome (h:(bif c then x else none)=some r):c=true∧x=some r:=by cases c with|true=>exact⟨rfl,h⟩|false=>cases h
theorem ctrue (hc:c=true) (h:(bif c then A else B)=some r):A=some r:=by subst hc;exact h
theorem cfalse (hc:c=false) (h:(bif c then A else B)=some r):B=some r:=by subst hc;exact h
theorem Mz (h:look E t=some (.raw (.bool c))) (kt:c=true→Under F0 n E L X) (kf:c=false→Under F0 n E L X):Under F0 n E L X:=by cases hc:c with|true=>exact kt hc|false=>exact kf hc
theorem MA (hc:c=b) (hj:((ops[j]?).bind (·.dst))=some g) (hb:look E g=some (.raw (.bool c))) (k:Under F0 n E L (wpList P ops Q (⟨o,op,ty,pos,aft,none⟩::rest))):Under F0 n E L (wpList P ops Q (⟨o,op,ty,pos,aft,some (j,b)⟩::rest)):=by subst hc;exact ML hj hb k
theorem MB (hc:c= !b) (hj:((ops[j]?).bind (·.dst))=some g) (hb:look E g=some (.raw (.bool c))) (hu:Nat.blt u n=true) (k:Under F0 n ((u,.raw undef)::E) L (wpList P ops Q rest)):Under F0 n E L (wpList P ops Q (⟨some u,op,ty,pos,aft,some (j,b)⟩::rest)):=by subst hc;exact Under.skip hj hb hu k
def sW (J Z E:List (Nat×SV)):Bool:=J.all λq=>(look Z q.1).isSome||(look E q.1).isNone
theorem pj (J E:List (Nat×SV)) (t:Nat):look (J++E) t=match look J t with|some s=>some s|none=>look E t:=by induction J with|nil=>rfl|cons q J ih=>obtain⟨k,v⟩:=q;simp only[G5,ck];split<;>simp_all
theorem vq (h:sW J Z E=true) (hz:look Z t=none) (hs:look E t=some s):look J t=none:=by induction J with|nil=>rfl|cons q J ih=>obtain⟨k,v⟩:=q;simp only[sW,Jn,FT,Hd] at h;rw[ck];split;rename_i hk;subst hk;rw[hs,hz] at h;simp at h;exact ih h.2
inductive SubZ (E1:List (Nat×SV)):List (Nat×SV)→Prop where
 |nil:SubZ E1 []
 |cons {t:Nat} {s s':SV} {Z:List (Nat×SV)} (h:look E1 t=some s') (e:s'=s) (r:SubZ E1 Z):SubZ E1 ((t,s)::Z)
theorem SubZ.spec (h:SubZ E1 Z):∀t s,look Z t=some s→look E1 t=some s:=by induction h with|nil=>intro t s h;cases h|cons h e r ih=>intro t s hl;rw[ck] at hl;split at hl;rename_i hk;subst hk;cases hl;subst e;exact h;exact ih t s hl
theorem ER (m:Nat) {E1:List (Nat×SV)} (hj:sW (E1.take m) Z (E1.drop m)=true) (hz:SubZ E1 Z):∀t v,look (Z++E1.drop m) t=some v→look E1 t=some v:=by intro t v h;rw[pj] at h;split at h;rename_i s hs;cases h;exact hz.spec t _ hs;rename_i hz0;have:=vq hj hz0 h;rw[←GJ m E1,pj,this];exact h
theorem MC (m:Nat) {E1:List (Nat×SV)} (hz:SubZ E1 Z) (hj:sW (E1.take m) Z (E1.drop m)=true) (k:Under F0 n (Z++E1.drop m) L X):Under F0 n E1 L X:=Ld (ER m hj hz) k
theorem J5 (e:s'=s) (k:Under F0 n ((t,s)::E) L X):Under F0 n ((t,s')::E) L X:=e▸k
theorem Ft (hc:c=true):(c||e)=true:=by subst hc;rfl
theorem or_t (hc:c=true):SV.raw (.bool true)= .raw (.bool (c||e)):=by subst hc;rfl
theorem or_f (hc:c=false):SV.raw (.bool e)= .raw (.bool (c||e)):=by subst hc;rfl
theorem ly (hc:c=true):SV.raw (.bool e)= .raw (.bool (c&&e)):=by subst hc;rfl
theorem lz (hc:c=false):SV.raw (.bool false)= .raw (.bool (c&&e)):=by subst hc;rfl
theorem Me (k:Under F0 n E' L X) (hs:∀t v,look E' t=some v→look E t=some v):Under F0 n E L X:=Ld hs k
def aK (F:Fz) (n:Nat) (E:List (Nat×SV)) (X:Act→Prop):Prop:=∀a,Env F a n E→X a
theorem Mf {id:Nat} {l:List Oper} (hm:P.follows .mixedOrders=true) (hB:Region.lexB .any l.toArray=true) (k:∀F,F0≤F→aK F n E (wpQuiet P l.toArray (Cl F L) (λa=>∀w,Cl F L w→Q .normal a w) l)):Under F0 n E L ((Code.region id l.toArray true).wp P Q):=λF a w h0 hE hS=>wp_region_quiet (C:=Cl F L) hm hB ⟨F,KF F,StG.drew hS⟩ (by simpa using k F h0 a hE)
variable {F:Fz} {Qa:Act→Prop}
theorem Mo (h:OpV P n E L ⟨some d,op,ty,pos,aft,none⟩ s) (hd:Nat.blt d n=true) (k:aK F n ((d,s)::E) (wpQuiet P ops (Cl F L) Qa rest)):aK F n E (wpQuiet P ops (Cl F L) Qa (⟨some d,op,ty,pos,aft,none⟩::rest)):=λa hE=>by obtain⟨v,hv,hw⟩:=h F a hE;unfold wpQuiet;rw[Gz (by simp[Region.wanted])];exact⟨v,hw,k _ (hE.put hd hv)⟩
theorem M4 (hj:((ops[j]?).bind (·.dst))=some g) (hb:look E g=some (.raw (.bool b))) (k:aK F n E (wpQuiet P ops C Qa (⟨o,op,ty,pos,aft,none⟩::rest))):aK F n E (wpQuiet P ops C Qa (⟨o,op,ty,pos,aft,some (j,b)⟩::rest)):=λa hE=>by have hk:=k a hE;obtain⟨v,hv,he⟩:=hE.at_ g _ hb;simp only[SV.ok] at he;subst he;(have hy:yielded ops a.tmps j=some b:=by simp[yielded,hj,hv]);unfold wpQuiet at hk⊢;simp only[Region.wanted,IE,hy,H9] at hk⊢;exact hk
theorem aK.skip (hj:((ops[j]?).bind (·.dst))=some g) (hb:look E g=some (.raw (.bool (!b)))) (hu:Nat.blt u n=true) (k:aK F n ((u,.raw undef)::E) (wpQuiet P ops C Qa rest)):aK F n E (wpQuiet P ops C Qa (⟨some u,op,ty,pos,aft,some (j,b)⟩::rest)):=λa hE=>by obtain⟨v,hv,he⟩:=hE.at_ g _ hb;simp only[SV.ok] at he;subst he;(have hy:yielded ops a.tmps j=some (!b):=by simp[yielded,hj,hv]);unfold wpQuiet;rw[Gt (by simp[Region.wanted,hy])];exact k _ (hE.put hu (by simp only[SV.ok]))
theorem aK.nil {C:World→Prop} (h0:F0≤F) (k:Under F0 n E L (Q .normal)):aK F n E (wpQuiet P ops C (λa=>∀w,Cl F L w→Q .normal a w) []):=λa hE w ⟨G,hg,hS⟩=>k G a w (Ki h0 hg) (hE.mono hg) hS
theorem M1 (h:look E t=some (.raw (.bool c))) (kt:c=true→aK F n E X) (kf:c=false→aK F n E X):aK F n E X:=by cases hc:c with|true=>exact kt hc|false=>exact kf hc
theorem M2 (hc:c=b) (hj:((ops[j]?).bind (·.dst))=some g) (hb:look E g=some (.raw (.bool c))) (k:aK F n E (wpQuiet P ops C Qa (⟨o,op,ty,pos,aft,none⟩::rest))):aK F n E (wpQuiet P ops C Qa (⟨o,op,ty,pos,aft,some (j,b)⟩::rest)):=by subst hc;exact M4 hj hb k
theorem M3 (hc:c= !b) (hj:((ops[j]?).bind (·.dst))=some g) (hb:look E g=some (.raw (.bool c))) (hu:Nat.blt u n=true) (k:aK F n ((u,.raw undef)::E) (wpQuiet P ops C Qa rest)):aK F n E (wpQuiet P ops C Qa (⟨some u,op,ty,pos,aft,some (j,b)⟩::rest)):=by subst hc;exact aK.skip hj hb hu k
theorem J9 (hj:((ops[j]?).bind (·.dst))=some g) (hb:look E g=some (.raw undef)) (hu:Nat.blt u n=true) (k:aK F n ((u,.raw undef)::E) (wpQuiet P ops C Qa rest)):aK F n E (wpQuiet P ops C Qa (⟨some u,op,ty,pos,aft,some (j,b)⟩::rest)):=λa hE=>by obtain⟨v,hv,he⟩:=hE.at_ g _ hb;simp only[SV.ok] at he;subst he;(have hy:yielded ops a.tmps j=none:=by simp[yielded,hj,hv,undef]);unfold wpQuiet;rw[Gt (by simp[Region.wanted,hy])];exact k _ (hE.put hu (by simp only[SV.ok]))
theorem JA (k:Under F0 n E (.own K (.slice none 0 0) e []::L) X):Under F0 n E L X:=λF a w h0 hE hS=>by refine k F a w h0 hE ⟨Frag.emp,.inl ⟨rfl,rfl,rfl⟩,λb hb=>absurd rfl hb,?_⟩;rw[Kq];exact hS
theorem Mg {α:Type} {K:Kd α} {v:Value} {e:TypeId} {xs:List α} {t:Nat} {X:Act→World→Prop} (ht:look E t=some (.raw v)) (k:Under F0 n ((t,.val (kSl K) xs)::E) L X):Under F0 n E (.own K v e xs::L) X:=λF a w h0 hE hS=>by obtain⟨h,hh,hap,hle,hS'⟩:=hS.freeze;refine k _ a w (Ki h0 hle) ⟨hE.defers,hE.size,λu r hl=>?_⟩ hS';rw[ck] at hl;split at hl;rename_i hk;subst hk;cases hl;obtain⟨v',h1,h2⟩:=hE.at_ t _ ht;simp only[SV.ok] at h2;subst h2;refine⟨_,h1,?_⟩;simp only[SV.ok];rcases hh with⟨rfl,rfl,_⟩|⟨g,cap,cur,rfl,rfl,h3,h4,h5,h6⟩;exact⟨[.slice none 0 0],⟨none,0,rfl,F9 _,.inl rfl⟩,rfl⟩;refine⟨[.slice (some ⟨g,0,none⟩) xs.length cap],⟨_,cap,rfl,h3,.inr ⟨⟨g,0,none⟩,cur,e,(0,0),rfl,rfl,?_,?_,by simpa using h6⟩⟩,rfl⟩;have hg:F.blk g=none:=hap g (by rw[Ju];simp);simp only[Fz.add,hg];exact Ju _ _;have:xs.length*K.n≤cap*K.n:=FS _ h3;simp only;omega;exact(hE.mono hle).at_ u r hl
structure AT {α:Type} (P:Program) (e:TypeId) (K:Kd α) (z:α) (bytes:Nat):Prop where
 out:∃ie zv,P.info? e=some ie∧ie.zero=some zv∧ie.size=K.n∧ie.bytes=bytes∧0<K.n∧bytes≤4096∧∀F,K.rd F zv.cells.toList z
def room:Nat:=17179869184
def app {α:Type} (xs ys:List α):Option (List α):=if xs.length+ys.length≤room then some (xs++ys) else none
theorem vr {xs ys:List α} (h:app xs ys=some zs):xs.length+ys.length≤room∧zs=xs++ys:=by unfold app at h;split at h;exact⟨‹_›,(Option.some.inj h).symm⟩;cases h
theorem Bd {K:Kd α} {bytes:Nat} {xs ys:List α} {w:World} (hroom:xs.length+ys.length≤room) (hT:P.underlying t=some (.slice e)) (he:AT P e K z bytes)
   (hh:(Res.own K v e xs).holds F h) (hon:∀b o,h b=some o→w.heap[b]? =some o) {cap2:Nat} {news:List Value} (hnl:news.length=ys.length*K.n) (hnr:bi K F news ys) (hn1:∀u∈news,u.oneCell'=true)
   (hnone:ad=none→ys.length=0) (hnc:∀p,ad=some p→∀j u,news[j]? =some u→w.cell? (p.add j)=some u):
   ∃v' w' h',(Builtin.append_ #[t,t] ty #[v,.slice ad ys.length cap2]).run P w= .ok v' w'∧(Res.own K v' e (xs++ys)).holds F h'∧Chg w w' h∧(∀b,h' b≠none→h b≠none∨w.heap.size≤b)∧(∀b o,h' b=some o→w'.heap[b]? =some o):=by
 obtain⟨ie,zv,h1,h2,h3,h4,h5,h6,h7⟩:=he.out
 have hzs:zv.cells.size=K.n:=by have:=K.len (h7 F);simpa using this
 have hbytes:(xs.length+ys.length)*ie.bytes≤140737488355328:=by
   have:(xs.length+ys.length)*ie.bytes≤room*4096:=IL hroom (by omega)
   unfold room at this;omega
 have hmax:xs.length+ys.length≤maxLen:=by unfold room at hroom;simp only[maxLen];omega
 have hsmall:xs.length+ys.length≤9223372036854775807:=by simp only[maxLen] at hmax;omega
 have hlen:(xs++ys).length=xs.length+ys.length:=by simp
 -- nothing is appended
 by_cases hy:ys.length=0
 · have:ys=[]:=Gb hy
   subst this
   have hn:news=[]:=Gb (by simpa using hnl)
   subst hn
   refine⟨v,w,h,?_,by simpa using hh,⟨rfl,rfl,rfl,λ_ _ _=>rfl⟩,λb hb=> .inl hb,hon⟩
   rcases hh with⟨rfl,rfl,_⟩|⟨g,cap,cur,rfl,_,h8,_⟩
   · cases ad<;>simp[Builtin.append_,FY hT,sizeOf,typeInfo,h1,Builtin.lenOf,Builtin.firstCells,loadCells,loadCellsFrom]
   · cases ad<;>simp[Builtin.append_,FY hT,sizeOf,typeInfo,h1,Builtin.lenOf,Builtin.firstCells,loadCells,loadCellsFrom,h8,storeCells]
 · obtain⟨p,rfl⟩:∃p,ad=some p:=by
     cases ad with
     |none=>exact absurd (hnone rfl) hy
     |some p=>exact⟨p,rfl⟩
   have hnews:=hnc p rfl
   -- a new row
   have fresh:∀(old:Nat) (olds:List Value),bi K F olds xs→old<xs.length+ys.length→
       (Res.own K (.slice (some ⟨w.heap.size,0,none⟩) (xs.length+ys.length) (grownCap w (xs.length+ys.length) old e)) e (xs++ys)).holds F
         (Frag.one w.heap.size (.cells (olds.toArray++news.toArray++Builtin.zeroCells zv.cells (grownCap w (xs.length+ys.length) old e - (xs.length+ys.length))) e (0,0))):=by
     intro old olds ho hlt
     have hge:=grownCap_ge w (xs.length+ys.length) old e
     have hcm:grownCap w (xs.length+ys.length) old e≤maxLen:=grownCap_le_maxLen w (xs.length+ys.length) old e hmax
     have hol:=ho.len
     refine .inr ⟨w.heap.size,_,_,by rw[hlen],rfl,by rw[hlen];exact hge,hcm,?_,?_⟩
     · simp only[Array.size_append,Hk,size_zeroCells,hzs,hol,hnl,←Hm]
       congr 1;omega
     · rw[hlen]
       simp only[Jb]
       have e1:(olds++news).length=(xs.length+ys.length)*K.n:=by rw[FM,hol,hnl,Hm]
       rw[←e1,Hh];exact ho.append hnr
   have alloc:∀(cells:Array Value),Chg w (w.drew.alloc (.cells cells e)) h∧(∀b,Frag.one w.heap.size (.cells cells e (0,0)) b≠none→h b≠none∨w.heap.size≤b)∧
       (∀b o,Frag.one w.heap.size (.cells cells e (0,0)) b=some o→(w.drew.alloc (.cells cells e)).heap[b]? =some o):=by
     intro cells
     obtain⟨a1,a2⟩:=kY w (.cells cells e)
     exact⟨⟨rfl,rfl,rfl,λb hb _=>Iq w _ b hb⟩,λb hb=> .inr (a1 b hb),a2⟩
   rcases hh with⟨rfl,rfl,rfl⟩|⟨g,cap,cur,rfl,rfl,a3,a4,a5,a6⟩
   · have hr:=run_append_nil (P:=P) w t ty e ie zv hT h1 h2 p ys.length cap2 news (by rw[h3];exact hnl) hnews (by omega) (by simp only[Gg] at hmax;omega) (by have hb:=hbytes;simp only[Gg,Gf] at hb;omega)
     have hf:=fresh 0 [] rfl (by simp;omega)
     simp only[Gg,Gf,Hy,F8] at hf⊢
     exact⟨_,_,_,hr,hf,alloc _⟩
   · have hg:=hon g _ (Ju _ _)
     by_cases hr:xs.length+ys.length≤cap
     · have hfit:xs.length*ie.size+news.length≤cur.size:=by rw[hnl,h3,a5,←Hm];exact FS _ hr
       have hrun:=run_append_room (P:=P) w t ty e ie hT h1 g xs.length cap cur hg p ys.length cap2 news (by rw[h3];exact hnl) hnews hn1 hr hfit
       refine⟨_,_,Frag.one g (.cells (cur.toList.take (xs.length*ie.size)++news++cur.toList.drop (xs.length*ie.size+news.length)).toArray e (0,0)),hrun,.inr ⟨g,cap,_,by rw[hlen],rfl,by rw[hlen];exact hr,a4,?_,?_⟩,
         ⟨rfl,rfl,rfl,λk _ hn=>setRow_other w g k _ (λe=>by rw[e,Ju] at hn;cases hn)⟩,λb hb=> .inl ?_,λb o e'=>?_⟩
       · simp only[Hk,FM,Ga,Gh,G1]
         omega
       · rw[hlen]
         have e1:(cur.toList.take (xs.length*ie.size)++news).length=(xs.length+ys.length)*K.n:=by
           rw[FM,Ga,hnl,h3,Hm]
           have:xs.length*K.n≤cur.toList.length:=by simp only[G1,a5];exact FS _ a3
           omega
         rw[←e1,Hh,h3];exact a6.append hnr
       · by_cases hbg:b=g
         · subst hbg;rw[Ju];simp
         · exact absurd (JZ _ hbg) hb
       · obtain⟨rfl,rfl⟩:=JT e';exact setRow_heap w b cur _ e _ hg
     · have holds:∀j u,(cur.toList.take (xs.length*K.n))[j]? =some u→w.cell? ((⟨g,0,none⟩:Addr).add j)=some u:=fun j u hu=>by
         have hj:j<xs.length*K.n:=by have:=(FN.1 hu).1;rw[a6.len] at this;exact this
         rw[Gp,Gf,Ib w g j cur e (0,0) hg]
         rw[Gc hj] at hu;simpa using hu
       have hrun:=run_append_grow (P:=P) w t ty e ie zv hT h1 h2 ⟨g,0,none⟩ xs.length cap (cur.toList.take (xs.length*K.n)) (by rw[h3];exact a6.len) holds p ys.length cap2 news (by rw[h3];exact hnl) hnews (by omega) (by omega) (growslice_fits (by omega) hbytes)
       have hf:=fresh cap _ a6 (by omega)
       exact⟨_,_,_,hrun,hf,alloc _⟩
theorem Under.app {K:Kd α} {bytes:Nat} {ys:List α} (hz:app xs ys=some zs) (hT:P.underlying t=some (.slice e)) (he:AT P e K z bytes) (hS:ev E S=some (.raw v)) (hV:ev E V=some s) (hr:rdOf s (kSl K) ys) (hd:Nat.blt d n=true) (k:∀v',Under F0 n ((d,.raw v')::E) (.own K v' e zs::L) (wpList P ops Q rest)):Under F0 n E (.own K v e xs::L) (wpList P ops Q (⟨some d,.call ⟨.builtin .append,#[S,V],#[t,t]⟩,ty,pos,aft,none⟩::rest)):=JE rfl λF a w h0 hE hSt=>by obtain⟨hroom,rfl⟩:=vr hz;have hsl:=hr F _ (hE.eval hV);obtain⟨cs,⟨ad,cap2,rfl,_,hcase⟩,hval⟩:=hsl;have hval:a.eval V= .slice ad ys.length cap2:=hval;(obtain⟨news,hnl,hnr,hn1,hnone,hnc⟩:∃news:List Value,news.length=ys.length*K.n∧bi K F news ys∧(∀u∈news,u.oneCell'=true)∧(ad=none→ys.length=0)∧(∀p,ad=some p→∀j u,news[j]? =some u→w.cell? (p.add j)=some u):=by rcases hcase with h0|⟨p,c,e',fr,rfl,hp,hb,hle,hrd⟩;have:ys=[]:=Gb h0;subst this;exact⟨[],by simp,rfl,by simp,λ_=>rfl,λp _ j u hu=>by simp at hu⟩;refine⟨_,hrd.len,hrd,hrd.one,λh=>(by cases h),λq hq j u hu=>?_⟩;cases hq;(have hj:j<ys.length*K.n:=by have:=(FN.1 hu).1;rw[hrd.len] at this;exact this);have hbw:=hSt.on.blk _ _ hb;obtain⟨pb,po,ps⟩:=p;simp only at hp hb hle hbw;subst hp;rw[Gp,Ib w pb (po+j) c e' fr hbw];rw[Gc hj,Gq] at hu;simpa using hu);obtain⟨f0,hh,hap,hs'⟩:=hSt;have hon:∀b o,f0 b=some o→w.heap[b]? =some o:=λb o e=>hs'.on.blk b o (by have:=hap b (by simp[e]);simp[Fz.add,this,e]);obtain⟨v',w',h',r1,r2,r3,r4,r5⟩:=Bd (P:=P) (ty:=ty) hroom hT he hh hon hnl hnr hn1 hnone hnc (cap2:=cap2);(have hS':St F w' (.own K v' e (xs++ys)::L):=by refine⟨h',r2,λb hb=>?_,hs'.change hap r3 r4 r5⟩;rcases r4 b hb with x|x;exact hap b x;cases e:F.blk b with|none=>rfl|some o=>have:=fg (hs'.on.blk b o ((F.le_add f0).blk b o e));omega);unfold Oper.wp;simp only[execOp,resolve,invoke,builtin,FV,F3,FQ,G4,Ge,Hl,hE.raw hS,hval,r1,Oper.upon];exact k v' F _ _ h0 (hE.put hd (by simp only[SV.ok])) hS'
end
end Go.Sim
namespace Go.Sim
open Go
section
variable {P:Program} {ops:Array Oper} {Q:Exit→Act→World→Prop} {rest:List Oper} {F0:Fz} {n:Nat} {E:List (Nat×SV)} {L:List Res}
variable {d:Nat} {op:Op} {ty:TypeId} {pos:String} {aft:Array Edge} {s:SV}
theorem MD (h:look E t=some s') (hr:rdOf s' K x) (k:Under F0 n ((t,.val K x)::E) L X):Under F0 n E L X:=λF a w h0 hE hS=>k F a w h0 ⟨hE.defers,hE.size,λu r e=>by rw[ck] at e;split at e;rename_i hk;subst hk;cases e;obtain⟨v,h1,h2⟩:=hE.at_ t _ h;exact⟨v,h1,by simp only[SV.ok];exact hr F v h2⟩;exact hE.at_ u r e⟩ hS
theorem ko {K:Kd α} {v:Value} (h:K.val F v x) (ha:K.agg=true):v= .agg v.cells.toList.toArray∧K.rd F v.cells.toList x:=by have:=h.eq_pack;rw[ha] at this;exact⟨by simpa[pack] using this,h.rd⟩
theorem nc {K:Kd α} (hT:KT P T K) (cs:Array Value) (o:Nat) (hle:o+K.n≤cs.size) (w:World):(part T cs o).run P w= .ok (pack K.agg ((cs.toList.drop o).take K.n)) w:=by cases ha:K.agg with|true=>have h1:=vp (P:=P) (by rw[hT.agg,ha]:aggB P T=some true) w;have h2:=cP hT.size w;simp only[part,FV,h1,FQ,IE,h2,F3,pack];congr 2;apply Array.ext';simp[List.extract,List.take_drop]|false=>have h1:=vp (P:=P) (by rw[hT.agg,ha]:aggB P T=some false) w;have hn:=K.sole ha;(have hlt:o<cs.size:=by omega);(have htk:((cs.toList.drop o).take K.n)=[cs[o]]:=by rw[hn,Hf (by simpa using hlt)];simp);simp only[part,FV,h1,FQ];simp[hlt,htk,pack]
theorem Mp {K:Kd α} {xs:List α} {i:Int} (hx:idx xs i=some x) (hT:P.underlying T=some (.array m e)) (he:KT P e K) (hX:ev E X=some (.val (kArr m K) xs)) (hI:ev E I=some (.raw (.int q i))):OpV P n E L ⟨some d,.index T X I,ty,pos,aft,none⟩ (.val K x):=JX λF a hE=>by have:=hE.eval hX;simp only[SV.ok] at this;obtain⟨hv,hrd⟩:=ko this rfl;obtain⟨h0,h1,hx⟩:=iU hx;have hm:xs.length=m:=hrd.1;have hlen:=hrd.2.len;have h2:(i.toNat+1)*K.n≤xs.length*K.n:=FS _ (by omega);rw[Gx] at h2;refine⟨_,by simp only[SV.ok];exact⟨_,hrd.2.get hx,rfl⟩,λw=>?_⟩;have hp:=nc he (a.eval X).cells.toList.toArray (i.toNat*K.n) (by simp only[Hk,hlen];exact h2) w;rw[execOp];simp only[hE.raw hI];rw[hv];(have hlt:i<(m:Int):=by omega);simp[Instr.index,asIntOf,FY hT,h0,hlt,cP he.size] at hp⊢;simp[Value.cells] at hp⊢;rw[hp];rfl
theorem L5 (hx:idx xs i=some x) (hT:P.underlying T=some (.array m e)) (he:KT P e (kInt k)) (hX:ev E X=some (.val (kArr m (kInt k)) xs)) (hI:ev E I=some (.raw (.int q i))):OpV P n E L ⟨some d,.index T X I,ty,pos,aft,none⟩ (.raw (.int k x)):=Lr (Mp hx hT he hX hI)
theorem OpV.max2 (hX:ev E X=some (.raw (.int k x))) (hY:ev E Y=some (.raw (.int k y))):OpV P n E L ⟨some d,.call ⟨.builtin .max,#[X,Y],#[t,u]⟩,ty,pos,aft,none⟩ (.raw (.int k (max x y))):=JW λF a hE w=>by(have e:(if y>x then y else x)=max x y:=by split<;>omega);simp[execOp,resolve,invoke,builtin,hE.raw hX,hE.raw hY,Builtin.max_,Builtin.max2] at e⊢;exact e
theorem OpV.min2 (hX:ev E X=some (.raw (.int k x))) (hY:ev E Y=some (.raw (.int k y))):OpV P n E L ⟨some d,.call ⟨.builtin .min,#[X,Y],#[t,u]⟩,ty,pos,aft,none⟩ (.raw (.int k (min x y))):=JW λF a hE w=>by(have e:(if y<x then y else x)=min x y:=by split<;>omega);simp[execOp,resolve,invoke,builtin,hE.raw hX,hE.raw hY,Builtin.min_,Builtin.min2] at e⊢;exact e
theorem D4 {K:Kd α} (hT:KT P T K) {F:Fz} (hon:F.on w) (hp:RdAt F p K x):∃v,(loadVar T p).run P w= .ok v w∧K.val F v x:=by obtain⟨c,e,fr,hs,hb,hle,hr⟩:=hp.out;have:=kO hT hs (hon.blk _ _ hb) hle;exact⟨_,by simpa[Instr.loadAt,Instr.sureAddr] using this,⟨_,hr,rfl⟩⟩
end
end Go.Sim
namespace Go.Sim
open Go
structure EqK {α:Type} [BEq α] (P:Program) (T:TypeId) (K:Kd α) (dep:Nat):Prop where
 eq:∀{d F v u x y w},K.val F v x→K.val F u y→(Op.equalIn (d+dep) T v u).run P w= .ok (x==y) w
theorem EqK.int {P:Program} (h:P.underlying T=some (.int k')):EqK P T (kInt k) 1:=⟨λ{d F v u x y w} h1 h2=>by rw[lN] at h1 h2;subst h1;subst h2;exact run_equalIn_int w d T k k' x y h⟩
theorem EqK.bool {P:Program} (h:P.underlying T=some .bool):EqK P T mN 1:=⟨λ{d F v u x y w} h1 h2=>by rw[vl] at h1 h2;subst h1;subst h2;exact run_equalIn_bool w d T x y h⟩
theorem sX [BEq α] {P:Program} {K:Kd α} (he:EqK P e K dep) (hk:KT P e K) (hc:P.cellsOf e=K.n) {cs ds:List Value}:∀{xs ys:List α} {is:List Nat} {j:Nat},xs.length=ys.length→is=List.range' j xs.length→bi K F (cs.drop (j*K.n)) xs→bi K F (ds.drop (j*K.n)) ys→(Op.eqItems (d+dep) e (P.cellsOf e) cs.toArray ds.toArray is).run P w= .ok (xs==ys) w|[],[],is,j,_,hi,_,_=>by subst hi;simp[Op.eqItems]|x::xs,y::ys,is,j,hl,hi,hx,hy=>by subst hi;simp only[F2,List.range'_succ];obtain⟨c,c',e1,h1,r1⟩:=hx;obtain⟨q,q',e2,h2,r2⟩:=hy;have lc:=K.len h1;have lq:=K.len h2;(have hle1:j*K.n+K.n≤cs.length:=by rcases IH K.n with h0|h0;rw[h0];simp;have:=congrArg List.length e1;simp only[Gh,FM] at this;omega);(have hle2:j*K.n+K.n≤ds.length:=by rcases IH K.n with h0|h0;rw[h0];simp;have:=congrArg List.length e2;simp only[Gh,FM] at this;omega);have p1:=nc hk cs.toArray (j*K.n) (by simpa using hle1) w;have p2:=nc hk ds.toArray (j*K.n) (by simpa using hle2) w;(have t1:(cs.drop (j*K.n)).take K.n=c:=by rw[e1,←lc,Hh]);(have t2:(ds.drop (j*K.n)).take K.n=q:=by rw[e2,←lq,Hh]);simp only[t1,t2] at p1 p2;have hq:=he.eq (d:=d) (w:=w) ⟨c,h1,rfl⟩ ⟨q,h2,rfl⟩;(have d1:cs.drop ((j+1)*K.n)=c':=by rw[Gx,←GI,e1,←lc,IS]);(have d2:ds.drop ((j+1)*K.n)=q':=by rw[Gx,←GI,e2,←lq,IS]);have ih:=sX he hk hc (d:=d) (cs:=cs) (ds:=ds) (w:=w) (xs:=xs) (ys:=ys) (is:=List.range' (j+1) xs.length) (j:=j+1) (by simpa using hl) rfl (by rw[d1];exact r1) (by rw[d2];exact r2);rw[hc] at ih⊢;simp only[Op.eqItems,FV,p1,p2,hq,FQ];show _=Result.ok ((x==y)&&(xs==ys)) w;cases hxy:(x==y);simp;simp only[Gr,Hn,IC,GV];exact ih|[],_::_,_,_,hl,_,_,_=>by simp at hl|_::_,[],_,_,hl,_,_,_=>by simp at hl
theorem EqK.arr [BEq α] {P:Program} {K:Kd α} (he:EqK P e K dep) (hk:KT P e K) (hT:P.underlying T=some (.array m e)):EqK P T (kArr m K) (dep+1):=⟨λ{d F v u x y w} h1 h2=>by obtain⟨i,hi,hs⟩:=Gs.1 hk.size;(have hc:P.cellsOf e=K.n:=by simp[Program.cellsOf,hi,hs]);obtain⟨e1,r1⟩:=ko h1 rfl;obtain⟨e2,r2⟩:=ko h2 rfl;rw[e1,e2,show d+(dep+1)=(d+dep)+1 by omega,run_equalIn_array w (d+dep) _ _ hT hi];exact sX he hk hc (j:=0) (by rw[r1.1,r2.1]) (by rw[r1.1,List.range_eq_range']) (by simpa using r1.2) (by simpa using r2.2)⟩
section
variable {P:Program} {ops:Array Oper} {Q:Exit→Act→World→Prop} {rest:List Oper} {F0:Fz} {n:Nat} {E:List (Nat×SV)} {L:List Res}
variable {d:Nat} {op:Op} {ty:TypeId} {pos:String} {aft:Array Edge} {s:SV}
theorem Lo [BEq α] {K:Kd α} (he:EqK P T K dep) (hg:P.eqGuardType P.depth T=false) (ha:K.agg=true) (hdep:Nat.ble dep 10000=true) (hX:ev E X=some s1) (h1:rdOf s1 K x) (hY:ev E Y=some s2) (h2:rdOf s2 K y):OpV P n E L ⟨some d,.binOp .eql T X Y u,ty,pos,aft,none⟩ (.raw (.bool (x==y))):=JW λF a hE w=>by have v1:=h1 F _ (hE.eval hX);have v2:=h2 F _ (hE.eval hY);have hq:=he.eq (d:=10000 - dep) (w:=w) v1 v2;rw[show 10000 - dep+dep=10000 by have:=Hb hdep;omega] at hq;obtain⟨e1,_⟩:=ko v1 ha;obtain⟨e2,_⟩:=ko v2 ha;rw[e1,e2] at hq;rw[execOp];simp only[];rw[e1,e2];simp only[eqGuard,FV,run_program,FQ,hg,run_eql_struct,hq];simp[hg,run_eql_struct,hq]
theorem Mq [BEq α] {K:Kd α} (he:EqK P T K dep) (hg:P.eqGuardType P.depth T=false) (ha:K.agg=true) (hdep:Nat.ble dep 10000=true) (hX:ev E X=some s1) (h1:rdOf s1 K x) (hY:ev E Y=some s2) (h2:rdOf s2 K y):OpV P n E L ⟨some d,.binOp .neq T X Y u,ty,pos,aft,none⟩ (.raw (.bool (x != y))):=JW λF a hE w=>by have v1:=h1 F _ (hE.eval hX);have v2:=h2 F _ (hE.eval hY);have hq:=he.eq (d:=10000 - dep) (w:=w) v1 v2;rw[show 10000 - dep+dep=10000 by have:=Hb hdep;omega] at hq;obtain⟨e1,_⟩:=ko v1 ha;obtain⟨e2,_⟩:=ko v2 ha;rw[e1,e2] at hq;rw[execOp];simp only[];rw[e1,e2];simp only[eqGuard,FV,run_program,FQ,hg,run_neq_struct,hq];simp[hg,run_neq_struct,hq,bne]
def mkB (l c:Int):Bool:=decide (0≤l)&&decide (l≤c)&&decide (c≤(room:Int))
theorem D5 (h:mkB l c=true):0≤l∧l≤c∧c≤(room:Int):=by simp only[mkB,FT,FX] at h;exact⟨h.1.1,h.1.2,h.2⟩
theorem vt {K:Kd α} {bytes:Nat} (hT:P.underlying T=some (.slice e)) (he:AT P e K z bytes) {l c:Int} (h0:0≤l) (h1:l≤c) (h2:c≤(room:Int)) (F:Fz) (w:World):∃cells:Array Value,(Instr.makeSlice T (.int k l) (.int k' c)).run P w= .ok (.slice (some ⟨w.heap.size,0,none⟩) l.toNat c.toNat) (w.alloc (.cells cells e))∧bi K F cells.toList (List.replicate c.toNat z):=by obtain⟨ie,zv,i1,i2,i3,i4,i5,i6,i7⟩:=he.out;(have hzs:zv.cells.size=K.n:=by have:=K.len (i7 F);simpa using this);have hr:(room:Int)=17179869184:=rfl;have e1:IntKind.i64.wrap l=l:=IntWalk.i64_in _ (by omega);have e2:IntKind.i64.wrap c=c:=IntWalk.i64_in _ (by omega);(have hb:(ie.bytes:Int)*c≤2^48:=by have:(ie.bytes:Int)*c≤4096*17179869184:=Int.mul_le_mul (by omega) (by omega) (by omega) (by omega);omega);refine⟨(Array.range (c.toNat*zv.cells.size)).map (zv.cells[· %zv.cells.size]!),?_,by rw[Al zv.cells c.toNat (by omega)];exact nb (i7 F) _⟩;(have g1:¬(c<0):=by omega);(have g2:¬((ie.bytes:Int)*c>2^48):=by omega);(have g3:¬(l<0):=by omega);(have g4:¬(l>c):=by omega);(have hsz:(sizeOf e).run P w= .ok K.n w:=by simp[sizeOf,typeInfo,i1,i3]);(have hbytes:c.toNat*ie.bytes≤roomBytes:=by have h9:(c.toNat*ie.bytes:Nat)≤17179869184*4096:=IL (by omega) (by omega);unfold roomBytes;omega);(have hask:(askRoom (c.toNat*ie.bytes)).run P w= .ok () w:=by simp[askRoom,Nat.not_lt.2 hbytes]);simp only[Instr.makeSlice,FV,FY hT,asInt,asIntOf,F3,FQ,typeInfo,run_program,i1,e1,e2];rw[Gt (by simp only[g1,g2,g3,g4];simp)];simp only[FV,hask,hsz,FQ];by_cases hc0:c.toNat*K.n=0;(have hc1:c.toNat=0:=by rcases Nat.mul_eq_zero.1 hc0 with h|h;exact h;omega);rw[Gz hc0];(have hr0:∀f:Nat→Value,Array.map f (Array.range 0)=#[]:=λf=>by simp);simp[hc1,newRow,lx,hr0];rw[Gt hc0];have hz:=kn (P:=P) (T:=e) (v:=zv) (by rw[i1];exact i2) w;simp[hz,newRow,lx,hzs]
theorem Under.mk {K:Kd α} {bytes:Nat} {l c:Int} (h:mkB l c=true) (hT:P.underlying T=some (.slice e)) (he:AT P e K z bytes) (hL:ev E Ln=some (.raw (.int k l))) (hC:ev E C=some (.raw (.int k' c))) (hd:Nat.blt d n=true) (kk:∀v,Under F0 n ((d,.raw v)::E) (.own K v e (List.replicate l.toNat z)::L) (wpList P ops Q rest)):Under F0 n E L (wpList P ops Q (⟨some d,.makeSlice T Ln C,ty,pos,aft,none⟩::rest)):=JE rfl λF a w h0 hE hS=>by obtain⟨l0,l1,l2⟩:=D5 h;obtain⟨cells,hrun,hrd⟩:=vt (P:=P) hT he l0 l1 l2 (k:=k) (k':=k') F w;obtain⟨hn1,hn2⟩:=kY w (.cells cells e);(have hc:cells.size=c.toNat*K.n:=by have:=hrd.len;simpa using this);have hr:(room:Int)=17179869184:=rfl;have hS':St F (w.alloc (.cells cells e)) (.own K (.slice (some ⟨w.heap.size,0,none⟩) l.toNat c.toNat) e (List.replicate l.toNat z)::L):=KU hS (Frag.one w.heap.size (.cells cells e)) (.inr ⟨w.heap.size,c.toNat,cells,by simp,rfl,by simp;omega,by simp only[maxLen];omega,hc,by have:=hrd.take l.toNat;simpa[List.take_replicate,GE (by omega:l.toNat≤c.toNat)] using this⟩) (jU w _) hn1 hn2;unfold Oper.wp;simp only[execOp,hE.raw hL,hE.raw hC,FV,hrun,FQ,F3,Oper.upon];exact kk _ _ _ _ h0 (hE.put hd (by simp only[SV.ok])) hS'
def JO:=@Under.mk
end
end Go.Sim
