import Derived.Test.YtdkfkpbijdimkaaGreatDoorLawFeed
set_option linter.unusedVariables false
set_option linter.unusedSimpArgs false
set_option linter.unusedSectionVars false
set_option maxRecDepth 20000
set_option maxHeartbeats 1000000
namespace Go.Proofs.YtdkfkpbijdimkaaGreatDoor
open Go Go.Sim
variable [Fu]
theorem ek {v z:Int} {k:Nat} (hz:z=k) (hk:k≤8):aO v z=some (numS v k):=by
 subst hz
 unfold aO
 rw[wrap64 (x:=(k:Int) - 1) (by omega)]
 rw[d9 (s0:=([],(k:Int) - 1)) (r:=numS v k) (fun i=>((List.range i).map (fun j=>IntKind.wrap .u8 (shrI .i64 v ((8*(k - 1 - j):Nat):Int))),(k:Int) - 1 - (i:Int))) 0 k (Nat.zero_le _) ?_ ?_ ?_]
 · rfl
 · intro i _ hi
   have h1:decide ((k:Int) - 1 - (i:Int)≥0)=true:=decide_eq_true (by omega)
   have e:(k:Int) - 1 - (i:Int)=((k - 1 - i:Nat):Int):=by omega
   have h3:IntKind.wrap .i64 (8*((k:Int) - 1 - (i:Int)))=((8*(k - 1 - i):Nat):Int):=by rw[wrap64 (by omega)];omega
   have h2:decide (0≤((8*(k - 1 - i):Nat):Int))=true:=decide_eq_true (by omega)
   simp only[h1,h3,h2,cond_true]
   rw[cf (by rw[cX];simp;omega)]
   simp only[au]
   rw[ka (fun j=>IntKind.wrap .u8 (shrI .i64 v ((8*(k - 1 - j):Nat):Int))),wrap64 (by omega)]
   congr 3;omega
 · have h1:decide ((k:Int) - 1 - (k:Int)≥0)=false:=decide_eq_false (by omega)
   simp only[h1,cond_false];rfl
 · simp
def ga (s:ah):Prop:=(0≤s.a∧s.a<65521)∧(0≤s.b∧s.b<65521)
theorem il {x:Int} (h:0≤x):0≤Int.tmod x 65521∧Int.tmod x 65521<65521:=by
 rw[Int.tmod_eq_emod_of_nonneg h];omega
theorem jU {s:ah} {b:Int} (hs:ga s) (hb:0≤b∧b≤255):i8 s b=⟨Int.tmod (s.a+b) 65521,Int.tmod (s.b+Int.tmod (s.a+b) 65521) 65521⟩∧ga (i8 s b):=by
 obtain⟨h1,h2⟩:=hs
 have r1:=il (x:=s.a+b) (by omega)
 have r2:=il (x:=s.b+Int.tmod (s.a+b) 65521) (by omega)
 have w:∀x:Int,0≤x∧x<4294967296→IntKind.wrap .u32 x=x:=fun x hx=>by rw[fh];omega
 have e:i8 s b=⟨Int.tmod (s.a+b) 65521,Int.tmod (s.b+Int.tmod (s.a+b) 65521) 65521⟩:=by
  unfold i8
  simp only[w b (by omega),w (s.a+b) (by omega),w (s.b+Int.tmod (s.a+b) 65521) (by omega)]
 exact⟨e,by rw[e];exact⟨r1,r2⟩⟩
theorem jV:∀{p:List Int} {s:ah},ga s→aI p→ga (addS s p)
 |[],s,hs,_=>hs
 |b::p,s,hs,hb=>jV (p:=p) (jU hs (hb b (by simp))).2 (fun x hx=>hb x (by simp[hx]))
theorem lM {s:ah} (hs:ga s):dj s=s.b*65536+s.a:=by
 obtain⟨⟨a0,a1⟩,⟨b0,b1⟩⟩:=hs
 obtain⟨a,b⟩:=s
 simp only at a0 a1 b0 b1
 obtain⟨x,rfl⟩:∃x:Nat,a=x:=⟨a.toNat,by omega⟩
 obtain⟨y,rfl⟩:∃y:Nat,b=y:=⟨b.toNat,by omega⟩
 unfold dj
 have e1:shlI .u32 (y:Int) 16=((y*65536:Nat):Int):=by
  show IntKind.u32.wrap ((y:Int)*65536)=_
  rw[fh];omega
 simp only
 rw[e1]
 unfold orI
 have b1:(BitVec.ofInt IntKind.u32.bits ((y*65536:Nat):Int)|||BitVec.ofInt IntKind.u32.bits (x:Int)).toNat=y*65536+x:=by
  show(BitVec.ofInt 32 ((y*65536:Nat):Int)|||BitVec.ofInt 32 (x:Int)).toNat=_
  rw[BitVec.toNat_or,BitVec.toNat_ofInt,BitVec.toNat_ofInt]
  have h1:((((y*65536:Nat):Int))%((2^32:Nat):Int)).toNat=y*65536:=by omega
  have h2:(((x:Int))%((2^32:Nat):Int)).toNat=x:=by omega
  rw[h1,h2]
  have:=Nat.shiftLeft_add_eq_or_of_lt (b:=x) (i:=16) (by omega) y
  rw[Nat.shiftLeft_eq] at this
  exact this.symm
 rw[b1,fh];omega
def sum0 (p:List Int):ah:=addS ⟨1,0⟩ p
theorem im {p:List Int} (hb:aI p):ga (sum0 p):=jV ⟨⟨by decide,by decide⟩,⟨by decide,by decide⟩⟩ hb
theorem ly (p:List Int) (b:Int):sum0 (p++[b])=i8 (sum0 p) b:=by simp[sum0,addS]
theorem jW {p:List Int} (hb:aI p) (hl:p.length<2^30):bQ p=some (numS (dj (sum0 p)) 4):=by
 unfold bQ
 have hv:=im hb
 rw[d9 (s0:=(1,0,0)) (r:=((sum0 p).a,(sum0 p).b)) (fun i=>((sum0 (p.take i)).a,(sum0 (p.take i)).b,(i:Int))) 0 p.length (Nat.zero_le _) ?_ ?_ rfl]
 · simp only[au]
   obtain⟨⟨a0,a1⟩,⟨b0,b1⟩⟩:=hv
   rw[wrap64 (x:=(sum0 p).b*65536) (by omega),wrap64 (by omega),ek (z:=4) (k:=4) rfl (by omega),lM ⟨⟨a0,a1⟩,⟨b0,b1⟩⟩]
   rfl
 · intro i _ hi
   have h1:decide ((i:Int)<(p.length:Int))=true:=decide_eq_true (by omega)
   simp only[h1,cond_true]
   rw[cR rfl hi]
   have hg:=cT hb i
   have hi2:=im (cn hb i)
   have e:p.take (i+1)=p.take i++[p.getD i 0]:=by rw[List.take_succ_eq_append_getElem hi];simp[hi]
   rw[e,ly,(jU hi2 hg).1]
   obtain⟨⟨a0,a1⟩,⟨b0,b1⟩⟩:=hi2
   have r1:=il (x:=(sum0 (p.take i)).a+p.getD i 0) (by omega)
   simp only[au]
   rw[wrap64 (x:=p.getD i 0) (by omega),wrap64 (x:=(sum0 (p.take i)).a+p.getD i 0) (by omega),wrap64 (x:=(sum0 (p.take i)).b+_) (by omega),wrap64 (by omega)]
   rfl
 · have h1:decide ((p.length:Int)<(p.length:Int))=false:=decide_eq_false (by omega)
   simp only[h1,cond_false,List.take_length]
theorem ml (p:List Int):cj p=bQ p:=rfl
theorem lN (h:ae):((((((decide (h.Left<0))||(decide (h.Left>8)))||(decide (h.Round<0)))||(decide (h.Round≥4611686018427387904)))||(decide (h.Epoch<0)))||(decide (h.Epoch>4611686018427387904)))= !fW h:=by
 unfold fW
 rw[Bool.eq_iff_iff]
 simp only[Bool.or_eq_true,decide_eq_true_eq,Bool.not_eq_true',Bool.and_eq_false_iff,decide_eq_false_iff_not]
 omega
theorem io:∀cs:List (List Int),(cs.all fun c=>c.length==320)=true→(ep cs).length=322*cs.length:=by
 intro cs
 induction cs with
 |nil=>intro _;rfl
 |cons c cs ih=>
  intro h
  simp only[List.all_cons,Bool.and_eq_true,beq_iff_eq] at h
  have:=ih h.2
  simp only[ep] at this
  simp[ep,cd,this,h.1];omega
theorem dH {p q:List Int} (hp:aI p) (hq:aI q):aI (p++q):=fun b h=>(List.mem_append.1 h).elim (hp b) (hq b)
theorem gZ (h:ae) (n:Nat):aI (fo h n):=by
 unfold fo
 refine dH (dH (dH (dH (fun b hb=>?_) (fun b hb=>?_)) (dI _ _)) (dI _ _)) (dI _ _)
 · simp only[List.mem_cons,List.not_mem_nil,or_false] at hb;omega
 · simp only[List.mem_cons,List.not_mem_nil,or_false] at hb
   rcases hb with rfl|rfl
   · omega
   · exact gW _
theorem g6 {cs:List (List Int)} (hb:∀c∈cs,aI c):aI (ep cs):=by
 intro b h
 simp only[ep,List.mem_flatten,List.mem_map] at h
 obtain⟨l,⟨c,hc,rfl⟩,hl⟩:=h
 rcases List.mem_append.1 hl with h1|h1
 · exact dI _ _ b h1
 · exact hb c hc b h1
theorem lO (b:aq) (hb:∀c∈b.Cells,aI c):ck b=some (dW b):=by
 unfold ck dW
 rw[lN]
 cases hf: !fW b.Header with
 |true=>rfl
 |false=>
  rw[cond_false,cond_false]
  cases hc:decide ((b.Cells.length:Int)>256) with
  |true=>rfl
  |false=>
   have hc:=of_decide_eq_false hc
   rw[cond_false,cond_false,ek (z:=2) (k:=2) rfl (by omega)]
   simp only[au]
   rw[cf (by rw[cX];simp[cd]),ek (z:=8) (k:=8) rfl (by omega)]
   simp only[au]
   rw[cf (by rw[cX];simp[cd]),ek (z:=8) (k:=8) rfl (by omega)]
   simp only[au]
   rw[cf (by rw[cX];simp[cd])]
   simp only[au]
   have hd0:[67,72,82,78,1,IntKind.wrap .u8 b.Header.Left]++numS (b.Cells.length:Int) 2++numS b.Header.Round 8++numS b.Header.Epoch 8=fo b.Header b.Cells.length:=rfl
   rw[hd0]
   have hhl:=gP b.Header b.Cells.length
   rw[(jI (fun(i:Nat) (x:List Int)=>(x,(i:Int))) ja b.Cells (fun i r x=>x.length=24+322*i) (fun x=>Sum.inl x) (Sum.inr (([],64):List Int×Int)) ?_ ?_ (fo b.Header b.Cells.length) (by rw[hhl]) ?_).1]
   · rw[gb]
     cases hall:b.Cells.all fun c=>c.length==320 with
     |false=>rfl
     |true=>
      have hbl:=io _ hall
      simp only[cond_true,au]
      have hby:aI (fo b.Header b.Cells.length++ep b.Cells):=fun x hx=>by
       rcases List.mem_append.1 hx with h1|h1
       · exact gZ _ _ x h1
       · exact g6 hb x h1
      rw[ml,jW hby (by rw[List.length_append,hbl,hhl];omega)]
      simp only[au]
      rw[cf (by rw[cX,List.length_append,hbl,hhl,cd];omega)]
      rfl
   · intro i c r x hdr hi hget I
     have hlt:decide ((i:Int)<(b.Cells.length:Int))=true:=decide_eq_true (by omega)
     have hcd:b.Cells.getD i []=c:=by simp[List.getD,hget]
     simp only[hlt,cond_true,ja]
     rw[kX (i:=i) [] rfl hi,hcd]
     simp only[au]
     have hb:((c.length:Int) != 320)= !(c.length==320):=by
      rw[Bool.eq_iff_iff];simp;omega
     rw[hb]
     cases h3:(c.length==320) with
     |false=>exact⟨fun _=>rfl,fun y hy=>(by cases hy)⟩
     |true=>
      have h3:c.length=320:=by simpa using h3
      refine⟨fun h=>(by cases h),fun y hy=>?_⟩
      cases hy
      simp only[Bool.not_true,cond_false]
      rw[ek (z:=2) (k:=2) rfl (by omega)]
      simp only[au]
      rw[cf (by rw[cX];simp[cd];omega)]
      simp only[au]
      rw[cf (by rw[cX];simp[cd];omega),wrap64 (by omega)]
      refine⟨by simp,by simp[cd,I,h3];omega⟩
   · intro x I
     have hlt:decide ((b.Cells.length:Int)<(b.Cells.length:Int))=false:=decide_eq_false (by omega)
     simp only[hlt,cond_false]
   · rfl
theorem iZ {p:List Int} {b:Int} (hp:p.length≤6∨bigS p<2^55) (hb:aI p) (h:0≤b∧b≤255) (hl:p.length≤7):bigS (p++[b])=bigS p*256+b:=by
 obtain⟨v,h1,h2⟩:=cm p.length p rfl (by omega) hb
 have h56:v<2^56:=by
  have:256^p.length≤256^7:=Nat.pow_le_pow_right (by omega) (by omega)
  omega
 obtain⟨c,rfl⟩:∃c:Nat,b=c:=⟨b.toNat,by omega⟩
 have e:bigS (p++[(c:Int)])=orI .u64 (shlI .u64 (bigS p) 8) (IntKind.wrap .u64 (c:Int)):=by
  unfold bigS;rw[List.foldl_append];rfl
 rw[e,h1,jy h56 (by omega)]
 omega
theorem gz {p:List Int} (hb:aI p) (hl:p.length≤8):0≤bigS p∧bigS p<((256^p.length:Nat):Int):=by
 obtain⟨v,h1,h2⟩:=cm p.length p rfl hl hb
 omega
def el (w:List Int):Int:=bif decide (w.length=8)&&decide (bigS (w.take 7)≥36028797018963968) then -1 else bigS w
theorem em {raw:List Int} {z y:Int} {a k:Nat} (hz:z=a) (hy:y=k) (hk:k≤8) (hk0:1≤k) (hl:a+k≤raw.length) (h30:raw.length<2^30) (hb:aI raw):aA raw z y=some (el ((raw.drop a).take k)):=by
 subst hz hy
 have hwl:((raw.drop a).take k).length=k:=by simp;omega
 have hwb:aI ((raw.drop a).take k):=cn (fi hb a) k
 have hat:∀i,i<k→raw.getD (a+i) 0=((raw.drop a).take k).getD i 0:=fun i hi=>by
  simp[List.getD,List.getElem?_take,List.getElem?_drop,hi]
 generalize (raw.drop a).take k=w at*
 have V:=fun i (hi:i≤k)=>gz (p:=w.take i) (cn hwb i) (by simp;omega)
 have tl:∀i,i≤k→(w.take i).length=i:=fun i hi=>by simp;omega
 have step:∀i,i<k→bigS (w.take i)<2^55→bigS (w.take (i+1))=bigS (w.take i)*256+w.getD i 0:=fun i hi h55=>by
  have e:w.take (i+1)=w.take i++[w.getD i 0]:=by rw[List.take_succ_eq_append_getElem (by omega)];simp[hwl,hi]
  rw[e]
  exact iZ (.inr h55) (cn hwb i) (cT hwb i) (by rw[tl i (by omega)];omega)
 have small:∀i,i≤6→i≤k→bigS (w.take i)<2^55:=fun i h6 hi=>by
  have:=(V i hi).2
  rw[tl i hi] at this
  have h2:256^i≤256^6:=Nat.pow_le_pow_right (by omega) h6
  omega
 unfold aA
 have hend:IntKind.wrap .i64 ((a:Int)+(k:Int))=(a:Int)+(k:Int):=wrap64 (by omega)
 rw[hend]
 have nx : ∀ i, i < k → bigS (w.take i) < 2 ^ 55 → (bif decide (((a : Int) + (i : Int)) < (a : Int) + (k : Int)) then
      bif decide (bigS (w.take i)≥36028797018963968) then
       some (.done (.inr (-1)))
      else
       (idx raw ((a:Int)+(i:Int))).bind fun x47=>
       some (.next (IntKind.wrap .i64 ((IntKind.wrap .i64 (bigS (w.take i)*256))+(IntKind.wrap .i64 x47)),IntKind.wrap .i64 ((a:Int)+(i:Int)+1)))
    else
      some (.done (.inl (bigS (w.take i)))) : Option (Ctl (Int × Int) (Int ⊕ Int))) = some (.next (bigS (w.take (i + 1)), (a : Int) + ((i + 1 : Nat) : Int))) := fun i hi h55 => by
  have h1:decide (((a:Int)+(i:Int))<(a:Int)+(k:Int))=true:=decide_eq_true (by omega)
  have h2:decide (bigS (w.take i)≥36028797018963968)=false:=decide_eq_false (by omega)
  rw[h1,h2,cond_true,cond_false,cR (i:=a+i) (by omega) (by omega),hat i hi]
  simp only[au]
  have hg:=cT hwb i
  have hv:=(V i (by omega)).1
  rw[wrap64 (x:=bigS (w.take i)*256) (by omega),wrap64 (x:=w.getD i 0) (by omega),wrap64 (x:=bigS (w.take i)*256+_) (by omega),wrap64 (by omega),step i hi h55]
  congr 3
 cases hbad:decide (w.length=8)&&decide (bigS (w.take 7)≥36028797018963968) with
 |false=>
  have all55:∀i,i<k→bigS (w.take i)<2^55:=fun i hi=>by
    by_cases h6:i≤6
    · exact small i h6 (by omega)
    · have:i=7:=by omega
      subst this
      have hk8:w.length=8:=by omega
      rw[decide_eq_true hk8,Bool.true_and] at hbad
      have:=of_decide_eq_false hbad
      omega
  rw[d9 (s0:=(0,(a:Int))) (r:=Sum.inl (bigS w)) (fun i=>(bigS (w.take i),(a:Int)+(i:Int))) 0 k (Nat.zero_le _) (fun i _ hi=>nx i hi (all55 i hi)) ?_ ?_]
  · simp only[au,el,hbad,cond_false]
  · have h1:decide (((a:Int)+(k:Int))<(a:Int)+(k:Int))=false:=decide_eq_false (by omega)
    have:w.take k=w:=List.take_of_length_le (by omega)
    simp only[h1,cond_false,this]
  · simp[bigS]
 |true=>
  rw[Bool.and_eq_true,decide_eq_true_eq,decide_eq_true_eq] at hbad
  obtain⟨h8,h7⟩:=hbad
  have hk8:k=8:=by omega
  rw[d9 (s0:=(0,(a:Int))) (r:=Sum.inr (-1)) (fun i=>(bigS (w.take i),(a:Int)+(i:Int))) 0 7 (Nat.zero_le _) (fun i _ hi=>nx i (by omega) (small i (by omega) (by omega))) ?_ ?_]
  · simp only[au,el,h8,decide_true,Bool.true_and,decide_eq_true h7,cond_true]
  · have h1:decide (((a:Int)+((7:Nat):Int))<(a:Int)+(k:Int))=true:=decide_eq_true (by omega)
    simp only[h1,cond_true,decide_eq_true h7]
  · simp[bigS]
end Go.Proofs.YtdkfkpbijdimkaaGreatDoor
