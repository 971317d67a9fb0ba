import Derived.Test.YtobbmodjdkcdcaaGreatDoorSimC
import Derived.Test.YtobbmodjdkcdcaaGreatDoorRows
import Derived.Shelf.SlSortCmp.NoneTotal
import Derived.Shelf.Lay
import Derived.Ground.SlsfProg
namespace Go.Proofs.YtobbmodjdkcdcaaGreatDoor
open Go Go.Sim Go.Shelf Go.RowKit Go.Lib Go.Sort Go.Proofs
set_option maxHeartbeats 1000000 in
theorem aal (W:World) (va vb:Value) (r:Int) (h55:(callFunc 230 #[va,vb]).run Tryz.prog W= .ok (.value (.int .i64 r)) W):Calls Tryz.prog 189 #[va,vb] W λe w'=>e= .returned (.int .i64 r)∧w'=W:=by
 go_enter Tryz.func189,Tryz.ntmps189
 go_wp2
 go_ret
 exact⟨rfl,rfl⟩
abbrev RJ:Type:={l:List Int // l.length=16∧aT l}
instance:Inhabited RJ:=⟨⟨List.replicate 16 0,by simp,λb hb=>by simp at hb;omega⟩⟩
def Px (x:RJ):List Value:=x.1.map (.int .u8 ·)
def SZ (x y:RJ):Int:=Sr x.1 y.1
def Ak:Go.Shelf.Ren:=⟨λ|6=>125|15=>188|14=>187|28=>228|29=>229|20=>220|21=>221|22=>222|23=>223|24=>224|25=>225|26=>226|27=>227|46=>244|47=>245|48=>246|49=>247|50=>248|57=>254|n=>n,λ|22=>85|24=>64|25=>208|3=>3|39=>74|0=>0|53=>142|55=>71|4=>4|46=>302|45=>301|50=>233|5=>5|9=>9|66=>321|70=>325|76=>332|77=>123|n=>n,λ|n=>n⟩
theorem BK:Go.Proofs.SlLaysF0.n6 Tryz.prog Ak where
 mixed:=by kernel_rfl
 f6 := ⟨"slices.SortFunc[[][16]byte,[16]byte]", by decide, Tryz.func125.trans (congrArg some (by kernel_rfl))⟩
 f14 := ⟨"slices.pdqsortCmpFunc[[16]byte]", by decide, Tryz.func187.trans (congrArg some (by kernel_rfl))⟩
 f15:=Tryz.func188.trans (congrArg some (by kernel_rfl))
 f20 := ⟨"slices.insertionSortCmpFunc[[16]byte]", by decide, Tryz.func220.trans (congrArg some (by kernel_rfl))⟩
 f21 := ⟨"slices.heapSortCmpFunc[[16]byte]", by decide, Tryz.func221.trans (congrArg some (by kernel_rfl))⟩
 f22 := ⟨"slices.breakPatternsCmpFunc[[16]byte]", by decide, Tryz.func222.trans (congrArg some (by kernel_rfl))⟩
 f23 := ⟨"slices.choosePivotCmpFunc[[16]byte]", by decide, Tryz.func223.trans (congrArg some (by kernel_rfl))⟩
 f24 := ⟨"slices.reverseRangeCmpFunc[[16]byte]", by decide, Tryz.func224.trans (congrArg some (by kernel_rfl))⟩
 f25 := ⟨"slices.partialInsertionSortCmpFunc[[16]byte]", by decide, Tryz.func225.trans (congrArg some (by kernel_rfl))⟩
 f26 := ⟨"slices.partitionEqualCmpFunc[[16]byte]", by decide, Tryz.func226.trans (congrArg some (by kernel_rfl))⟩
 f27 := ⟨"slices.partitionCmpFunc[[16]byte]", by decide, Tryz.func227.trans (congrArg some (by kernel_rfl))⟩
 f28:=Tryz.func228.trans (congrArg some (by kernel_rfl))
 f29:=Tryz.func229.trans (congrArg some (by kernel_rfl))
 f46 := ⟨"slices.siftDownCmpFunc[[16]byte]", by decide, Tryz.func244.trans (congrArg some (by kernel_rfl))⟩
 f47:=Tryz.func245.trans (congrArg some (by kernel_rfl))
 f48:=Tryz.func246.trans (congrArg some (by kernel_rfl))
 f49 := ⟨"slices.medianAdjacentCmpFunc[[16]byte]", by decide, Tryz.func247.trans (congrArg some (by kernel_rfl))⟩
 f50 := ⟨"slices.medianCmpFunc[[16]byte]", by decide, Tryz.func248.trans (congrArg some (by kernel_rfl))⟩
 f57 := ⟨"slices.order2CmpFunc[[16]byte]", by decide, Tryz.func254.trans (congrArg some (by kernel_rfl))⟩
 t0:=Tryz.underlying0
 a0:=Tryz.isAgg0
 z0:=Tryz.sizeOf0
 v0:=Tryz.zeroValue0
 t3:=Tryz.underlying3
 a3:=Tryz.isAgg3
 z3:=Tryz.sizeOf3
 v3:=Tryz.zeroValue3
 t4:=Tryz.underlying4
 a4:=Tryz.isAgg4
 z4:=Tryz.sizeOf4
 v4:=Tryz.zeroValue4
 t5:=Tryz.underlying5
 a5:=Tryz.isAgg5
 z5:=Tryz.sizeOf5
 v5:=Tryz.zeroValue5
 t9:=Tryz.underlying9
 a9:=Tryz.isAgg9
 z9:=Tryz.sizeOf9
 v9:=Tryz.zeroValue9
 t22:=Tryz.underlying85
 a22:=Tryz.isAgg85
 z22:=Tryz.sizeOf85
 v22:=Tryz.zeroValue85
 t25:=Tryz.underlying208
 a25:=Tryz.isAgg208
 z25:=Tryz.sizeOf208
 v25:=Tryz.zeroValue208
 t39:=Tryz.underlying74
 a39:=Tryz.isAgg74
 z39:=Tryz.sizeOf74
 v39:=Tryz.zeroValue74
 t45:=Tryz.underlying301
 a45:=Tryz.isAgg301
 z45:=Tryz.sizeOf301
 v45:=Tryz.zeroValue301
 t46:=Tryz.underlying302
 a46:=Tryz.isAgg302
 z46:=Tryz.sizeOf302
 v46:=Tryz.zeroValue302
 t50:=Tryz.underlying233
 a50:=Tryz.isAgg233
 z50:=Tryz.sizeOf233
 v50:=Tryz.zeroValue233
 t53:=Tryz.underlying142
 a53:=Tryz.isAgg142
 z53:=Tryz.sizeOf142
 v53:=Tryz.zeroValue142
 t55:=Tryz.underlying71
 a55:=Tryz.isAgg71
 z55:=Tryz.sizeOf71
 v55:=Tryz.zeroValue71
 t66:=Tryz.underlying321
 a66:=Tryz.isAgg321
 z66:=Tryz.sizeOf321
 v66:=Tryz.zeroValue321
 t70:=Tryz.underlying325
 a70:=Tryz.isAgg325
 z70:=Tryz.sizeOf325
 v70:=Tryz.zeroValue325
 t76:=Tryz.underlying332
 a76:=Tryz.isAgg332
 z76:=Tryz.sizeOf332
 v76:=Tryz.zeroValue332
 t77:=Tryz.underlying123
 a77:=Tryz.isAgg123
 z77:=Tryz.sizeOf123
 v77:=Tryz.zeroValue123
theorem wZ (W:World) (va vb:Value) (B1 B2:ByteArray) (h1:(Extern.Bytes.bytesOf va).run Tryz.prog W= .ok B1 W) (h2:(Extern.Bytes.bytesOf vb).run Tryz.prog W= .ok B2 W):(callFunc 230 #[va,vb]).run Tryz.prog W= .ok (.value (.int .i64 (Lib.compareBytes B1.data.toList B2.data.toList))) W:=by
 rw[run_callFunc_extern Tryz.func230 (by kernel_rfl) (by kernel_rfl) (by kernel_rfl) (by kernel_rfl)]
 have hc:(Extern.BytealgCompare.compare #[va,vb]).run Tryz.prog W= .ok (.int .i64 (Lib.compareBytes B1.data.toList B2.data.toList)) W:=by
  change Sem.run Tryz.prog (do Pure.pure (goInt (Extern.BytealgCompare.cmp (←Extern.Bytes.bytesOf va) (←Extern.Bytes.bytesOf vb)))) W=_
  simp only[HC,h1,h2,Hv,HI,goInt,Lib.cmp_eq]
 rw[hc];rfl
theorem BL (W:World) (b:Nat) (x:List Int) (T:TypeId) (hb:W.heap[b]? =some (.cells (x.map (Value.int .u8 ·)).toArray T (0,0))) (hl:x.length=16):∃B:ByteArray,(Extern.Bytes.bytesOf (.slice (some ⟨b,0,none⟩) 16 16)).run Tryz.prog W= .ok B W∧B.data.toList=Xw x:=by
 have hcell:∀j y,x[j]? =some y→W.cell? ((⟨b,0,none⟩:Addr).add j)=some (.int .u8 y):=by
  intro j y hy
  rw[H6,JW W b (0+j) _ T (0,0) hb]
  simp[hy]
 have:=Lib.run_loadBytesX (P:=Tryz.prog) W x ⟨b,0,none⟩ .empty hcell
 exact⟨_,by simpa[Extern.Bytes.bytesOf,hl] using this,by simp[Xw]⟩
set_option maxHeartbeats 1000000 in
theorem Zh (x y:RJ) (W:World):Calls Tryz.prog 126 #[.agg (Px x).toArray,.agg (Px y).toArray] W λe w'=>e= .returned (.int .i64 (SZ x y))∧∃q os',w'=grow (W.drewN q) os':=by
 have hcon:∀(W':World) (b1 b2:Nat) (T1 T2:TypeId),W'.heap[b1]? =some (.cells (Px x).toArray T1 (0,0))→W'.heap[b2]? =some (.cells (Px y).toArray T2 (0,0))→Calls Tryz.prog 189 #[.slice (some ⟨b1,0,none⟩) 16 16,.slice (some ⟨b2,0,none⟩) 16 16] W' λe w'=>e= .returned (.int .i64 (SZ x y))∧w'=W':=λW' b1 b2 T1 T2 h1 h2=>by
  obtain⟨B1,r1,e1⟩:=BL W' b1 x.1 T1 h1 x.2.1
  obtain⟨B2,r2,e2⟩:=BL W' b2 y.1 T2 h2 y.2.1
  have h:=wZ W' _ _ B1 B2 r1 r2
  rw[e1,e2] at h
  exact aal W' _ _ _ h
 have hx:(Px x).toArray.size=16:=by simp[Px,x.2.1]
 have hy:(Px y).toArray.size=16:=by simp[Px,y.2.1]
 generalize SZ x y=r at hcon⊢
 generalize (Px x).toArray=ax at hcon hx⊢
 generalize (Px y).toArray=ay at hcon hy⊢
 go_enter Tryz.func126,Tryz.ntmps126
 go_wp2
 have hsz:(W.alloc (.cells ax 64)).heap.size=W.heap.size+1:=by show(W.heap.push _).size=_;simp
 have hb1:((W.alloc (.cells ax 64)).alloc (.cells ay 64)).heap[W.heap.size]? =some (.cells ax 64 (0,0)):=by rw[heap_alloc_old _ _ (by rw[hsz];omega)];exact heap_alloc_new W _
 have hb2:((W.alloc (.cells ax 64)).alloc (.cells ay 64)).heap[W.heap.size+1]? =some (.cells ay 64 (0,0)):=by rw[←hsz];exact heap_alloc_new _ _
 have hg:∀q,∃os',((W.alloc (.cells ax 64)).alloc (.cells ay 64)).drewN q=grow (W.drewN q) os':=λq=>⟨_,by rw[alloc_eq_grow,alloc_eq_grow,grow_grow];rfl⟩
 generalize (W.alloc (.cells ax 64)).alloc (.cells ay 64)=W2 at hb1 hb2 hg⊢
 go_quiet (first|(go_at_call 189;refine Calls.quiet_of_same (hcon _ _ _ _ _ hb1 hb2)))
 go_wp2
 go_ret
 obtain⟨os',e⟩:=hg nq
 exact⟨rfl,nq,os',e⟩
theorem Ei (blk off size:Nat) (w:World):CmpLays Tryz.prog 126 #[] Px 16 SZ blk off size w:=λ_ _ _ _ x y=>Zh x y _
noncomputable def w4 (ts:List (List Int)):Option (List (List Int)):=
 open Classical in if (∀ x ∈ ts, aT x) ∧ ts.length < 4611686018427387904 then some (ts.mergeSort λx y => !P9 y x) else none
theorem vf {α:Type} (enc:α→List Value) (k:Nat) (hk:∀x,(enc x).length=k) (hk0:0<k):∀(l:List α) (t:Nat),t<l.length*k→(l.flatMap enc)[t]? =(l[t / k]?).bind λx=>(enc x)[t%k]?
 |[],t,h=>by simp at h
 |x::l,t,h=>by
  rw[Ia,IC,hk]
  by_cases ht:t<k
  · rw[Il ht,Nat.div_eq_of_lt ht,Ke ht];rfl
  · rw[Ic ht]
    have h1:t=(t - k)+k:=by omega
    have h2:t / k=(t - k) / k+1:=by conv=>lhs;rw[h1,Nat.add_div_right _ hk0]
    have h3:t%k=(t - k)%k:=by conv=>lhs;rw[h1,Nat.add_mod_right]
    rw[vf enc k hk hk0 l (t - k) (by rw[HL,Ib] at h;omega),h2,h3];rfl
theorem tK (d:Array RJ):(flatK Px 16 d).toList=d.toList.flatMap Px:=by
 have hk:∀x,(Px x).length=16:=λx=>by simp[Px,x.2.1]
 have hl:∀l:List RJ,(l.flatMap Px).length=l.length*16:=λl=>by
   induction l with
   |nil=>rfl
   |cons x l ih=>rw[Ia,Hu,hk,ih,HL];omega
 refine JH λt=>?_
 by_cases ht:t<d.size*16
 · have hd:t / 16<d.size:=by omega
   rw[vf Px 16 hk (by omega) d.toList t (by simpa using ht),II,II,IB (by simpa using ht),IB hd]
   have:=get_flatK Px 16 d t ht
   rw[La (flatK Px 16 d) t (by simpa using ht),La d (t / 16) hd] at this
   rw[this]
   have hm:t%16<(Px d[t / 16]).length:=by rw[hk];omega
   rw[La (Px d[t / 16]) (t%16) hm]
   simp
 · rw[Is (by simpa using ht),Is (by rw[hl];simpa using ht)]
theorem qe {F:Fz}:∀{ts:List (List Int)} {cs:List Value},cb (h_ 16 (cv .u8)) F cs ts↔(∀x∈ts,x.length=16)∧cs=ts.flatMap (·.map (.int .u8 ·))
 |[],cs=>by simp[cb]
 |x::ts,cs=>by
  simp only[cb,Ia]
  constructor
  · rintro⟨c,d,rfl,⟨h1,h2⟩,h3⟩
    obtain⟨a,b⟩:=qe.1 h3
    exact⟨λy hy=>by rcases H2.1 hy with rfl|hy;exact h1;exact a y hy,by rw[mP.1 h2,b]⟩
  · rintro⟨h,rfl⟩
    exact⟨_,_,rfl,⟨h x (by simp),mP.2 rfl⟩,qe.2 ⟨λy hy=>h y (by simp[hy]),rfl⟩⟩
theorem Dm (ts:List (List Int)) (h:∀x∈ts,x.length=16) (hb:∀x∈ts,aT x):∃d:List RJ,d.map (·.1)=ts:=
 ⟨ts.pmap (λx hx=>⟨x,hx⟩) (λx hx=>⟨h x hx,hb x hx⟩),by simp[List.map_pmap]⟩
theorem rP (x y:RJ):ltOf SZ x y=P9 x.1 y.1:=by
 have:=AJ x.2.2 y.2.2 (by rw[x.2.1,y.2.1])
 unfold ltOf SZ
 cases h:P9 x.1 y.1 with
 |true=>simpa using this.2 h
 |false=>simp only[Hy];intro hc;rw[this.1 hc] at h;cases h
theorem V6:SWO (ltOf SZ) where
 irrefl x:=by rw[rP];exact iT _
 trans x y z h1 h2:=by rw[rP] at*;exact kK h1 h2
 ntrans x y z h1 h2:=by
  rw[rP] at*
  cases h:P9 x.1 z.1 with
  |false=>rfl
  |true=>
   exfalso
   by_cases e1:x.1=y.1
   · rw[e1,h2] at h;cases h
   · rcases pR (by rw[x.2.1,y.2.1]) e1 with h3|h3
     · rw[h3] at h1;cases h1
     · have:=kK h3 h
       rw[this] at h2;cases h2
theorem GM:∀x y,ltOf SZ x y=false→ltOf SZ y x=false→x=y:=λx y h1 h2=>by
 rw[rP] at*
 refine Classical.byContradiction λhn=>?_
 rcases pR (by rw[x.2.1,y.2.1]) (λe=>hn (Subtype.ext e)) with h|h
 · rw[h] at h1;cases h1
 · rw[h] at h2;cases h2
theorem si (d:List RJ):(d.mergeSort λx y=> !ltOf SZ y x).map (·.1)=(d.map (·.1)).mergeSort λx y=> !P9 y x:=
 List.map_mergeSort λa _ b _=>by rw[rP]
theorem re {v:Value} {ts r:List (List Int)} (h:w4 ts=some r) (L:List i_):Ok Tryz.prog 125 [.raw v,.raw (.func (.func 126) #[] #[])] (.own (h_ 16 (cv .u8)) v 64 ts::L) (.tup []) (.own (h_ 16 (cv .u8)) v 64 r::L):=λF w vs hv hS=>by
 have hvs:vs=[v,.func (.func 126) #[] #[]]:=by
   match vs,hv with
   |[a,b],h=>simp only[SV.oks,SV.ok] at h;obtain⟨rfl,rfl,_⟩:=h;rfl
   |[],h=>simp only[SV.oks] at h
   |[a],h=>simp only[SV.oks] at h;exact h.2.elim
   |a::b::c::l,h=>simp only[SV.oks] at h;exact h.2.2.elim
 subst hvs
 unfold w4 at h
 split at h
 case isFalse=>cases h
 rename_i hb
 obtain⟨hb,hlen⟩:=hb
 cases h
 obtain⟨f,hf,hon⟩:=hS.head
 rcases hf with⟨rfl,rfl,rfl⟩|⟨g,cap,cur,rfl,rfl,h3,h4,h5,h6⟩
 · refine(AnyF.slices_SortFunc_none BK none 0 (.func (.func 126) #[] #[]) w).mono ?_
   rintro e w' ⟨rfl,rfl⟩
   exact⟨F,_,rfl,MD F,by simpa using hS,by simp only[SV.ok];exact⟨[],rfl,by simp only[SV.oks]⟩⟩
 · have hw:w.heap[g]? =some (.cells cur 64 (0,0)):=hon g _ (Lq _ _)
   obtain⟨hl,hcs⟩:=qe.1 h6
   obtain⟨d,hd⟩:=Dm ts hl hb
   have hdl:d.length=ts.length:=by rw[←hd];simp
   have hcs2:cur.toList.take (ts.length*16)=d.flatMap Px:=by
     have h7:=hcs
     rw[←hd,List.flatMap_map] at h7
     simp only[h_,cv,Lh] at h7
     rw[Ji,hdl] at h7
     exact h7
   have hflat:(flatK Px 16 d.toArray).toList=cur.toList.take (ts.length*16):=by rw[tK,hcs2]
   have hcsz:ts.length*16≤cur.size:=by
     have:cur.size=cap*16:=by simpa[h_,cv] using h5
     omega
   have hlt:g<w.heap.size:=fU hw
   have hH:HoldsK Px 16 w g 0 d.toArray:=λj hj=>by
     rw[size_flatK] at hj
     simp only[Jb,hdl] at hj
     have hc:cur[j]? =some ((flatK Px 16 d.toArray)[j]!):=by
       have h8:(flatK Px 16 d.toArray).toList[j]? =cur.toList[j]? :=by rw[hflat,HT hj]
       have hj2:j<(flatK Px 16 d.toArray).size:=by simp[hdl];exact hj
       rw[La (flatK Px 16 d.toArray) j hj2]
       rw[II,II] at h8
       rw[←h8,IB hj2]
     exact⟨by simp[World.cell?,hw,hc],by simp[World.frozen?,hw]⟩
   have hsz:d.toArray.size<4611686018427387904:=by
     simp[hdl];omega
   have key:=AnyQ.slices_SortFunc_total BK 16 Tryz.isAgg64 Tryz.sizeOf64 Px (λx=>by simp[Px,x.2.1]) (λx u hu=>by simp[Px] at hu;obtain⟨_,_,rfl⟩:=hu;rfl) SZ V6 126 #[] g 0 cap d.toArray w (enters_of Tryz.func126 (by kernel_rfl) rfl) (Ei g 0 _ w) hH hlt hsz GM
   simp only[Jb,hdl] at key
   refine key.mono ?_
   rintro e w' ⟨rfl,n,os,rfl⟩
   refine⟨F,_,rfl,MD F,?_,by simp only[SV.ok];exact⟨[],rfl,by simp only[SV.oks]⟩⟩
   have hsd:(d.mergeSort λx y=> !ltOf SZ y x).length=ts.length:=by rw[List.length_mergeSort,hdl]
   have hr:(ts.mergeSort λx y=> !P9 y x)=(d.mergeSort λx y=> !ltOf SZ y x).map (·.1):=by rw[si,hd]
   have hrl:(ts.mergeSort λx y=> !P9 y x).length=ts.length:=by simp
   generalize hD:(d.mergeSort λx y=> !ltOf SZ y x)=D at hsd hr
   have hF2:=tK D.toArray
   have hFs:(flatK Px 16 D.toArray).size=ts.length*16:=by simp[hsd]
   have hwk:sortWorldK Px 16 w g 0 n D.toArray os=grow (mapBlock (w.drewN n) g (putCells id 0 (flatK Px 16 D.toArray))) os:=rfl
   generalize flatK Px 16 D.toArray=fl at hF2 hFs hwk
   have hput:(putCells id 0 fl cur).toList=D.flatMap Px++cur.toList.drop (ts.length*16):=by
     refine JH λj=>?_
     have hsz2:(putCells id 0 fl cur).size=cur.size:=by simp[putCells]
     rw[II,IC,←hF2,IK,hFs]
     simp only[putCells,Array.getElem?_mapIdx,HH,true_and,HV,Kf,id,hFs]
     by_cases hj:j<ts.length*16
     · rw[Il hj,II,IB (show j<fl.size by omega),IB (show j<cur.size by omega)]
       simp only[Jx,Il hj]
       rw[La fl j (show j<fl.size by omega)]
     · rw[Ic hj,H5,show ts.length*16+(j - ts.length*16)=j by omega,II]
       cases cur[j]? <;>simp[hj]
   rw[hwk]
   have hheap:(grow (mapBlock (w.drewN n) g (putCells id 0 fl)) os).heap[g]? =some (.cells (putCells id 0 fl cur) 64 (0,0)):=by
     show((w.heap.modify g (onCells (putCells id 0 fl)))++os)[g]? =_
     rw[J9 (by simpa using hlt),JP]
     simp[hw,onCells]
   refine hS.turn λh1 hh1 hon1=>?_
   have hh1':h1=A_.one g (.cells cur 64 (0,0)):=by
     rcases hh1 with⟨e,_⟩|⟨g',cap',cur',e,e2,_⟩
     · cases e
     · cases e
       have h9:=hon1 g _ (by rw[e2];exact Lq _ _)
       rw[hw] at h9
       cases h9;exact e2
   subst hh1'
   refine⟨A_.one g (.cells (putCells id 0 fl cur) 64 (0,0)),.inr ⟨g,cap,putCells id 0 fl cur,by rw[hrl],rfl,by rw[hrl];exact h3,h4,?_,?_⟩,⟨rfl,rfl,rfl,λb hb hn=>?_⟩,λb hb=> .inl ?_,λb o ho=>?_⟩
   · simp only[putCells,Array.size_mapIdx];exact h5
   · rw[hrl,qe]
     refine⟨λx hx=>?_,?_⟩
     · rw[hr] at hx
       obtain⟨y,_,rfl⟩:=H7.1 hx
       exact y.2.1
     · rw[hput,hr,List.flatMap_map]
       have hlen16:(D.flatMap Px).length=ts.length*16:=by rw[←hF2,IK,hFs]
       have:ts.length*(h_ 16 (cv .u8)).n=(D.flatMap Px).length:=by rw[hlen16];simp[h_,cv]
       rw[this,I6];rfl
   · have hne:g≠b:=λe=>by subst e;rw[Lq] at hn;cases hn
     show((w.heap.modify g (onCells (putCells id 0 fl)))++os)[b]? =_
     rw[J9 (by simpa using hb),JP,Ic hne]
   · by_cases hqb:b=g
     · subst hqb;rw[Lq];simp
     · exact absurd (LZ _ hqb) hb
   · obtain⟨rfl,rfl⟩:=LV ho
     exact hheap
#print axioms re
end Go.Proofs.YtobbmodjdkcdcaaGreatDoor
