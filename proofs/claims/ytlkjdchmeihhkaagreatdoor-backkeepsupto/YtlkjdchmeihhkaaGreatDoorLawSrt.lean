import Derived.Test.YtlkjdchmeihhkaaGreatDoorSimC
import Derived.Test.YtlkjdchmeihhkaaGreatDoorRows
import Derived.Shelf.SlSortCmp.NoneTotal
import Derived.Shelf.Lay
import Derived.Ground.SlsfProg
namespace Go.Proofs.YtlkjdchmeihhkaaGreatDoor
open Go Go.Sim Go.Shelf Go.RowKit Go.Lib Go.Sort Go.Proofs
set_option maxHeartbeats 1000000 in
theorem Uq (W:World) (va vb:Value) (r:Int) (h55:(callFunc 191 #[va,vb]).run Tryz.prog W= .ok (.value (.int .i64 r)) W):Calls Tryz.prog 138 #[va,vb] W λe w'=>e= .returned (.int .i64 r)∧w'=W:=by
 go_enter Tryz.func138,Tryz.ntmps138
 go_wp2
 go_ret
 exact⟨rfl,rfl⟩
abbrev uI:Type:={l:List Int // l.length=16∧bW l}
instance:Inhabited uI:=⟨⟨List.replicate 16 0,by simp,λb hb=>by simp at hb;omega⟩⟩
def eN (x:uI):List Value:=x.1.map (.int .u8 ·)
def A_ (x y:uI):Int:=yC x.1 y.1
def zp:Go.Shelf.Ren:=⟨λ|6=>80|15=>137|14=>136|28=>189|29=>190|20=>181|21=>182|22=>183|23=>184|24=>185|25=>186|26=>187|27=>188|46=>214|47=>215|48=>216|49=>217|50=>218|57=>229|n=>n,λ|22=>48|24=>57|25=>155|3=>3|39=>106|0=>0|53=>159|55=>158|4=>4|46=>265|45=>264|50=>175|5=>5|9=>9|66=>292|70=>296|76=>309|77=>81|n=>n,λ|n=>n⟩
theorem AK:Go.Proofs.SlLaysF0.n6 Tryz.prog zp where
 mixed:=by kernel_rfl
 f6 := ⟨"slices.SortFunc[[][16]byte,[16]byte]", by decide, Tryz.func80.trans (congrArg some (by kernel_rfl))⟩
 f14 := ⟨"slices.pdqsortCmpFunc[[16]byte]", by decide, Tryz.func136.trans (congrArg some (by kernel_rfl))⟩
 f15:=Tryz.func137.trans (congrArg some (by kernel_rfl))
 f20 := ⟨"slices.insertionSortCmpFunc[[16]byte]", by decide, Tryz.func181.trans (congrArg some (by kernel_rfl))⟩
 f21 := ⟨"slices.heapSortCmpFunc[[16]byte]", by decide, Tryz.func182.trans (congrArg some (by kernel_rfl))⟩
 f22 := ⟨"slices.breakPatternsCmpFunc[[16]byte]", by decide, Tryz.func183.trans (congrArg some (by kernel_rfl))⟩
 f23 := ⟨"slices.choosePivotCmpFunc[[16]byte]", by decide, Tryz.func184.trans (congrArg some (by kernel_rfl))⟩
 f24 := ⟨"slices.reverseRangeCmpFunc[[16]byte]", by decide, Tryz.func185.trans (congrArg some (by kernel_rfl))⟩
 f25 := ⟨"slices.partialInsertionSortCmpFunc[[16]byte]", by decide, Tryz.func186.trans (congrArg some (by kernel_rfl))⟩
 f26 := ⟨"slices.partitionEqualCmpFunc[[16]byte]", by decide, Tryz.func187.trans (congrArg some (by kernel_rfl))⟩
 f27 := ⟨"slices.partitionCmpFunc[[16]byte]", by decide, Tryz.func188.trans (congrArg some (by kernel_rfl))⟩
 f28:=Tryz.func189.trans (congrArg some (by kernel_rfl))
 f29:=Tryz.func190.trans (congrArg some (by kernel_rfl))
 f46 := ⟨"slices.siftDownCmpFunc[[16]byte]", by decide, Tryz.func214.trans (congrArg some (by kernel_rfl))⟩
 f47:=Tryz.func215.trans (congrArg some (by kernel_rfl))
 f48:=Tryz.func216.trans (congrArg some (by kernel_rfl))
 f49 := ⟨"slices.medianAdjacentCmpFunc[[16]byte]", by decide, Tryz.func217.trans (congrArg some (by kernel_rfl))⟩
 f50 := ⟨"slices.medianCmpFunc[[16]byte]", by decide, Tryz.func218.trans (congrArg some (by kernel_rfl))⟩
 f57 := ⟨"slices.order2CmpFunc[[16]byte]", by decide, Tryz.func229.trans (congrArg some (by kernel_rfl))⟩
 t0:=Tryz.underlying0
 a0:=Tryz.isAgg0
 z0:=Tryz.sizeOf0
 v0:=Tryz.zeroValue0
 t3:=Tryz.underlying3
 a3:=Tryz.isAgg3
 z3:=Tryz.sizeOf3
 v3:=Tryz.zeroValue3
 t4:=Tryz.underlying4
 a4:=Tryz.isAgg4
 z4:=Tryz.sizeOf4
 v4:=Tryz.zeroValue4
 t5:=Tryz.underlying5
 a5:=Tryz.isAgg5
 z5:=Tryz.sizeOf5
 v5:=Tryz.zeroValue5
 t9:=Tryz.underlying9
 a9:=Tryz.isAgg9
 z9:=Tryz.sizeOf9
 v9:=Tryz.zeroValue9
 t22:=Tryz.underlying48
 a22:=Tryz.isAgg48
 z22:=Tryz.sizeOf48
 v22:=Tryz.zeroValue48
 t25:=Tryz.underlying155
 a25:=Tryz.isAgg155
 z25:=Tryz.sizeOf155
 v25:=Tryz.zeroValue155
 t39:=Tryz.underlying106
 a39:=Tryz.isAgg106
 z39:=Tryz.sizeOf106
 v39:=Tryz.zeroValue106
 t45:=Tryz.underlying264
 a45:=Tryz.isAgg264
 z45:=Tryz.sizeOf264
 v45:=Tryz.zeroValue264
 t46:=Tryz.underlying265
 a46:=Tryz.isAgg265
 z46:=Tryz.sizeOf265
 v46:=Tryz.zeroValue265
 t50:=Tryz.underlying175
 a50:=Tryz.isAgg175
 z50:=Tryz.sizeOf175
 v50:=Tryz.zeroValue175
 t53:=Tryz.underlying159
 a53:=Tryz.isAgg159
 z53:=Tryz.sizeOf159
 v53:=Tryz.zeroValue159
 t55:=Tryz.underlying158
 a55:=Tryz.isAgg158
 z55:=Tryz.sizeOf158
 v55:=Tryz.zeroValue158
 t66:=Tryz.underlying292
 a66:=Tryz.isAgg292
 z66:=Tryz.sizeOf292
 v66:=Tryz.zeroValue292
 t70:=Tryz.underlying296
 a70:=Tryz.isAgg296
 z70:=Tryz.sizeOf296
 v70:=Tryz.zeroValue296
 t76:=Tryz.underlying309
 a76:=Tryz.isAgg309
 z76:=Tryz.sizeOf309
 v76:=Tryz.zeroValue309
 t77:=Tryz.underlying81
 a77:=Tryz.isAgg81
 z77:=Tryz.sizeOf81
 v77:=Tryz.zeroValue81
theorem vZ (W:World) (va vb:Value) (B1 B2:ByteArray) (h1:(Extern.Bytes.bytesOf va).run Tryz.prog W= .ok B1 W) (h2:(Extern.Bytes.bytesOf vb).run Tryz.prog W= .ok B2 W):(callFunc 191 #[va,vb]).run Tryz.prog W= .ok (.value (.int .i64 (Lib.compareBytes B1.data.toList B2.data.toList))) W:=by
 rw[run_callFunc_extern Tryz.func191 (by kernel_rfl) (by kernel_rfl) (by kernel_rfl) (by kernel_rfl)]
 have hc:(Extern.BytealgCompare.compare #[va,vb]).run Tryz.prog W= .ok (.int .i64 (Lib.compareBytes B1.data.toList B2.data.toList)) W:=by
  change Sem.run Tryz.prog (do Pure.pure (goInt (Extern.BytealgCompare.cmp (←Extern.Bytes.bytesOf va) (←Extern.Bytes.bytesOf vb)))) W=_
  simp only[GK,h1,h2,GE,GR,goInt,Lib.cmp_eq]
 rw[hc];rfl
theorem AL (W:World) (b:Nat) (x:List Int) (T:TypeId) (hb:W.heap[b]? =some (.cells (x.map (Value.int .u8 ·)).toArray T (0,0))) (hl:x.length=16):∃B:ByteArray,(Extern.Bytes.bytesOf (.slice (some ⟨b,0,none⟩) 16 16)).run Tryz.prog W= .ok B W∧B.data.toList=Sr x:=by
 have hcell:∀j y,x[j]? =some y→W.cell? ((⟨b,0,none⟩:Addr).add j)=some (.int .u8 y):=by
  intro j y hy
  rw[Hh,IU W b (0+j) _ T (0,0) hb]
  simp[hy]
 have:=Lib.run_loadBytesX (P:=Tryz.prog) W x ⟨b,0,none⟩ .empty hcell
 exact⟨_,by simpa[Extern.Bytes.bytesOf,hl] using this,by simp[Sr]⟩
set_option maxHeartbeats 1000000 in
theorem UQ (x y:uI) (W:World):Calls Tryz.prog 81 #[.agg (eN x).toArray,.agg (eN y).toArray] W λe w'=>e= .returned (.int .i64 (A_ x y))∧∃q os',w'=grow (W.drewN q) os':=by
 have hcon:∀(W':World) (b1 b2:Nat) (T1 T2:TypeId),W'.heap[b1]? =some (.cells (eN x).toArray T1 (0,0))→W'.heap[b2]? =some (.cells (eN y).toArray T2 (0,0))→Calls Tryz.prog 138 #[.slice (some ⟨b1,0,none⟩) 16 16,.slice (some ⟨b2,0,none⟩) 16 16] W' λe w'=>e= .returned (.int .i64 (A_ x y))∧w'=W':=λW' b1 b2 T1 T2 h1 h2=>by
  obtain⟨B1,r1,e1⟩:=AL W' b1 x.1 T1 h1 x.2.1
  obtain⟨B2,r2,e2⟩:=AL W' b2 y.1 T2 h2 y.2.1
  have h:=vZ W' _ _ B1 B2 r1 r2
  rw[e1,e2] at h
  exact Uq W' _ _ _ h
 have hx:(eN x).toArray.size=16:=by simp[eN,x.2.1]
 have hy:(eN y).toArray.size=16:=by simp[eN,y.2.1]
 generalize A_ x y=r at hcon⊢
 generalize (eN x).toArray=ax at hcon hx⊢
 generalize (eN y).toArray=ay at hcon hy⊢
 go_enter Tryz.func81,Tryz.ntmps81
 go_wp2
 have hsz:(W.alloc (.cells ax 57)).heap.size=W.heap.size+1:=by show(W.heap.push _).size=_;simp
 have hb1:((W.alloc (.cells ax 57)).alloc (.cells ay 57)).heap[W.heap.size]? =some (.cells ax 57 (0,0)):=by rw[heap_alloc_old _ _ (by rw[hsz];omega)];exact heap_alloc_new W _
 have hb2:((W.alloc (.cells ax 57)).alloc (.cells ay 57)).heap[W.heap.size+1]? =some (.cells ay 57 (0,0)):=by rw[←hsz];exact heap_alloc_new _ _
 have hg:∀q,∃os',((W.alloc (.cells ax 57)).alloc (.cells ay 57)).drewN q=grow (W.drewN q) os':=λq=>⟨_,by rw[alloc_eq_grow,alloc_eq_grow,grow_grow];rfl⟩
 generalize (W.alloc (.cells ax 57)).alloc (.cells ay 57)=W2 at hb1 hb2 hg⊢
 go_quiet (first|(go_at_call 138;refine Calls.quiet_of_same (hcon _ _ _ _ _ hb1 hb2)))
 go_wp2
 go_ret
 obtain⟨os',e⟩:=hg nq
 exact⟨rfl,nq,os',e⟩
theorem Dv (blk off size:Nat) (w:World):CmpLays Tryz.prog 81 #[] eN 16 A_ blk off size w:=λ_ _ _ _ x y=>UQ x y _
noncomputable def so (ts:List (List Int)):Option (List (List Int)):=
 open Classical in if (∀ x ∈ ts, bW x) ∧ ts.length < 4611686018427387904 then some (ts.mergeSort λx y => !q8 y x) else none
theorem uf {α:Type} (enc:α→List Value) (k:Nat) (hk:∀x,(enc x).length=k) (hk0:0<k):∀(l:List α) (t:Nat),t<l.length*k→(l.flatMap enc)[t]? =(l[t / k]?).bind λx=>(enc x)[t%k]?
 |[],t,h=>by simp at h
 |x::l,t,h=>by
  rw[Hx,HO,hk]
  by_cases ht:t<k
  · rw[Hv ht,Nat.div_eq_of_lt ht,Jj ht];rfl
  · rw[Hu ht]
    have h1:t=(t - k)+k:=by omega
    have h2:t / k=(t - k) / k+1:=by conv=>lhs;rw[h1,Nat.add_div_right _ hk0]
    have h3:t%k=(t - k)%k:=by conv=>lhs;rw[h1,Nat.add_mod_right]
    rw[uf enc k hk hk0 l (t - k) (by rw[GT,Hl] at h;omega),h2,h3];rfl
theorem su (d:Array uI):(flatK eN 16 d).toList=d.toList.flatMap eN:=by
 have hk:∀x,(eN x).length=16:=λx=>by simp[eN,x.2.1]
 have hl:∀l:List uI,(l.flatMap eN).length=l.length*16:=λl=>by
   induction l with
   |nil=>rfl
   |cons x l ih=>rw[Hx,GD,hk,ih,GT];omega
 refine IN λt=>?_
 by_cases ht:t<d.size*16
 · have hd:t / 16<d.size:=by omega
   rw[uf eN 16 hk (by omega) d.toList t (by simpa using ht),HJ,HJ,HD (by simpa using ht),HD hd]
   have:=get_flatK eN 16 d t ht
   rw[JW (flatK eN 16 d) t (by simpa using ht),JW d (t / 16) hd] at this
   rw[this]
   have hm:t%16<(eN d[t / 16]).length:=by rw[hk];omega
   rw[JW (eN d[t / 16]) (t%16) hm]
   simp
 · rw[HB (by simpa using ht),HB (by rw[hl];simpa using ht)]
theorem oa {F:Fz}:∀{ts:List (List Int)} {cs:List Value},cr (bC 16 (aR .u8)) F cs ts↔(∀x∈ts,x.length=16)∧cs=ts.flatMap (·.map (.int .u8 ·))
 |[],cs=>by simp[cr]
 |x::ts,cs=>by
  simp only[cr,Hx]
  constructor
  · rintro⟨c,d,rfl,⟨h1,h2⟩,h3⟩
    obtain⟨a,b⟩:=oa.1 h3
    exact⟨λy hy=>by rcases Hc.1 hy with rfl|hy;exact h1;exact a y hy,by rw[ln.1 h2,b]⟩
  · rintro⟨h,rfl⟩
    exact⟨_,_,rfl,⟨h x (by simp),ln.2 rfl⟩,oa.2 ⟨λy hy=>h y (by simp[hy]),rfl⟩⟩
theorem CD (ts:List (List Int)) (h:∀x∈ts,x.length=16) (hb:∀x∈ts,bW x):∃d:List uI,d.map (·.1)=ts:=
 ⟨ts.pmap (λx hx=>⟨x,hx⟩) (λx hx=>⟨h x hx,hb x hx⟩),by simp[List.map_pmap]⟩
theorem qf (x y:uI):ltOf A_ x y=q8 x.1 y.1:=by
 have:=zT x.2.2 y.2.2 (by rw[x.2.1,y.2.1])
 unfold ltOf A_
 cases h:q8 x.1 y.1 with
 |true=>simpa using this.2 h
 |false=>simp only[GJ];intro hc;rw[this.1 hc] at h;cases h
theorem QO:SWO (ltOf A_) where
 irrefl x:=by rw[qf];exact lu _
 trans x y z h1 h2:=by rw[qf] at*;exact mc h1 h2
 ntrans x y z h1 h2:=by
  rw[qf] at*
  cases h:q8 x.1 z.1 with
  |false=>rfl
  |true=>
   exfalso
   by_cases e1:x.1=y.1
   · rw[e1,h2] at h;cases h
   · rcases qn (by rw[x.2.1,y.2.1]) e1 with h3|h3
     · rw[h3] at h1;cases h1
     · have:=mc h3 h
       rw[this] at h2;cases h2
theorem FT:∀x y,ltOf A_ x y=false→ltOf A_ y x=false→x=y:=λx y h1 h2=>by
 rw[qf] at*
 refine Classical.byContradiction λhn=>?_
 rcases qn (by rw[x.2.1,y.2.1]) (λe=>hn (Subtype.ext e)) with h|h
 · rw[h] at h1;cases h1
 · rw[h] at h2;cases h2
theorem qw (d:List uI):(d.mergeSort λx y=> !ltOf A_ y x).map (·.1)=(d.map (·.1)).mergeSort λx y=> !q8 y x:=
 List.map_mergeSort λa _ b _=>by rw[qf]
theorem lK {v:Value} {ts r:List (List Int)} (h:so ts=some r) (L:List bx):Ok Tryz.prog 80 [.raw v,.raw (.func (.func 81) #[] #[])] (.own (bC 16 (aR .u8)) v 57 ts::L) (.tup []) (.own (bC 16 (aR .u8)) v 57 r::L):=λF w vs hv hS=>by
 have hvs:vs=[v,.func (.func 81) #[] #[]]:=by
   match vs,hv with
   |[a,b],h=>simp only[SV.oks,SV.ok] at h;obtain⟨rfl,rfl,_⟩:=h;rfl
   |[],h=>simp only[SV.oks] at h
   |[a],h=>simp only[SV.oks] at h;exact h.2.elim
   |a::b::c::l,h=>simp only[SV.oks] at h;exact h.2.2.elim
 subst hvs
 unfold so at h
 split at h
 case isFalse=>cases h
 rename_i hb
 obtain⟨hb,hlen⟩:=hb
 cases h
 obtain⟨f,hf,hon⟩:=hS.head
 rcases hf with⟨rfl,rfl,rfl⟩|⟨g,cap,cur,rfl,rfl,h3,h4,h5,h6⟩
 · refine(AnyF.slices_SortFunc_none AK none 0 (.func (.func 81) #[] #[]) w).mono ?_
   rintro e w' ⟨rfl,rfl⟩
   exact⟨F,_,rfl,LO F,by simpa using hS,by simp only[SV.ok];exact⟨[],rfl,by simp only[SV.oks]⟩⟩
 · have hw:w.heap[g]? =some (.cells cur 57 (0,0)):=hon g _ (J8 _ _)
   obtain⟨hl,hcs⟩:=oa.1 h6
   obtain⟨d,hd⟩:=CD ts hl hb
   have hdl:d.length=ts.length:=by rw[←hd];simp
   have hcs2:cur.toList.take (ts.length*16)=d.flatMap eN:=by
     have h7:=hcs
     rw[←hd,List.flatMap_map] at h7
     simp only[bC,aR,Nat.mul_one] at h7
     rw[Hr,hdl] at h7
     exact h7
   have hflat:(flatK eN 16 d.toArray).toList=cur.toList.take (ts.length*16):=by rw[su,hcs2]
   have hcsz:ts.length*16≤cur.size:=by
     have:cur.size=cap*16:=by simpa[bC,aR] using h5
     omega
   have hlt:g<w.heap.size:=fQ hw
   have hH:HoldsK eN 16 w g 0 d.toArray:=λj hj=>by
     rw[size_flatK] at hj
     simp only[H3,hdl] at hj
     have hc:cur[j]? =some ((flatK eN 16 d.toArray)[j]!):=by
       have h8:(flatK eN 16 d.toArray).toList[j]? =cur.toList[j]? :=by rw[hflat,GY hj]
       have hj2:j<(flatK eN 16 d.toArray).size:=by simp[hdl];exact hj
       rw[JW (flatK eN 16 d.toArray) j hj2]
       rw[HJ,HJ] at h8
       rw[←h8,HD hj2]
     exact⟨by simp[World.cell?,hw,hc],by simp[World.frozen?,hw]⟩
   have hsz:d.toArray.size<4611686018427387904:=by
     simp[hdl];omega
   have key:=AnyQ.slices_SortFunc_total AK 16 Tryz.isAgg57 Tryz.sizeOf57 eN (λx=>by simp[eN,x.2.1]) (λx u hu=>by simp[eN] at hu;obtain⟨_,_,rfl⟩:=hu;rfl) A_ QO 81 #[] g 0 cap d.toArray w (enters_of Tryz.func81 (by kernel_rfl) rfl) (Dv g 0 _ w) hH hlt hsz FT
   simp only[H3,hdl] at key
   refine key.mono ?_
   rintro e w' ⟨rfl,n,os,rfl⟩
   refine⟨F,_,rfl,LO F,?_,by simp only[SV.ok];exact⟨[],rfl,by simp only[SV.oks]⟩⟩
   have hsd:(d.mergeSort λx y=> !ltOf A_ y x).length=ts.length:=by rw[List.length_mergeSort,hdl]
   have hr:(ts.mergeSort λx y=> !q8 y x)=(d.mergeSort λx y=> !ltOf A_ y x).map (·.1):=by rw[qw,hd]
   have hrl:(ts.mergeSort λx y=> !q8 y x).length=ts.length:=by simp
   generalize hD:(d.mergeSort λx y=> !ltOf A_ y x)=D at hsd hr
   have hF2:=su D.toArray
   have hFs:(flatK eN 16 D.toArray).size=ts.length*16:=by simp[hsd]
   have hwk:sortWorldK eN 16 w g 0 n D.toArray os=grow (mapBlock (w.drewN n) g (putCells id 0 (flatK eN 16 D.toArray))) os:=rfl
   generalize flatK eN 16 D.toArray=fl at hF2 hFs hwk
   have hput:(putCells id 0 fl cur).toList=D.flatMap eN++cur.toList.drop (ts.length*16):=by
     refine IN λj=>?_
     have hsz2:(putCells id 0 fl cur).size=cur.size:=by simp[putCells]
     rw[HJ,HO,←hF2,HL,hFs]
     simp only[putCells,Array.getElem?_mapIdx,GX,true_and,G5,Jl,id,hFs]
     by_cases hj:j<ts.length*16
     · rw[Hv hj,HJ,HD (show j<fl.size by omega),HD (show j<cur.size by omega)]
       simp only[IB,Hv hj]
       rw[JW fl j (show j<fl.size by omega)]
     · rw[Hu hj,HC,show ts.length*16+(j - ts.length*16)=j by omega,HJ]
       cases cur[j]? <;>simp[hj]
   rw[hwk]
   have hheap:(grow (mapBlock (w.drewN n) g (putCells id 0 fl)) os).heap[g]? =some (.cells (putCells id 0 fl cur) 57 (0,0)):=by
     show((w.heap.modify g (onCells (putCells id 0 fl)))++os)[g]? =_
     rw[Jh (by simpa using hlt),IK]
     simp[hw,onCells]
   refine hS.turn λh1 hh1 hon1=>?_
   have hh1':h1=bM.one g (.cells cur 57 (0,0)):=by
     rcases hh1 with⟨e,_⟩|⟨g',cap',cur',e,e2,_⟩
     · cases e
     · cases e
       have h9:=hon1 g _ (by rw[e2];exact J8 _ _)
       rw[hw] at h9
       cases h9;exact e2
   subst hh1'
   refine⟨bM.one g (.cells (putCells id 0 fl cur) 57 (0,0)),.inr ⟨g,cap,putCells id 0 fl cur,by rw[hrl],rfl,by rw[hrl];exact h3,h4,?_,?_⟩,⟨rfl,rfl,rfl,λb hb hn=>?_⟩,λb hb=> .inl ?_,λb o ho=>?_⟩
   · simp only[putCells,Array.size_mapIdx];exact h5
   · rw[hrl,oa]
     refine⟨λx hx=>?_,?_⟩
     · rw[hr] at hx
       obtain⟨y,_,rfl⟩:=Hk.1 hx
       exact y.2.1
     · rw[hput,hr,List.flatMap_map]
       have hlen16:(D.flatMap eN).length=ts.length*16:=by rw[←hF2,HL,hFs]
       have:ts.length*(bC 16 (aR .u8)).n=(D.flatMap eN).length:=by rw[hlen16];simp[bC,aR]
       rw[this,HW];rfl
   · have hne:g≠b:=λe=>by subst e;rw[J8] at hn;cases hn
     show((w.heap.modify g (onCells (putCells id 0 fl)))++os)[b]? =_
     rw[Jh (by simpa using hb),IK,Hu hne]
   · by_cases hqb:b=g
     · subst hqb;rw[J8];simp
     · exact absurd (KM _ hqb) hb
   · obtain⟨rfl,rfl⟩:=KI ho
     exact hheap
#print axioms lK
end Go.Proofs.YtlkjdchmeihhkaaGreatDoor
