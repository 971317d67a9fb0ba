import Derived.Test.YtobbmodjdkcdcaaGreatDoorLawFeed
set_option linter.unusedVariables false
set_option linter.unusedSimpArgs false
set_option linter.unusedSectionVars false
set_option maxRecDepth 20000
set_option maxHeartbeats 1000000
namespace Go.Proofs.YtobbmodjdkcdcaaGreatDoor
open Go Go.Sim
variable [Fu]
theorem kj {v z:Int} {k:Nat} (hz:z=k) (hk:k≤8):cn v z=some (numS v k):=by
 subst hz
 unfold cn
 rw[wrap64 (x:=(k:Int) - 1) (by omega)]
 rw[aW (s0:=([],(k:Int) - 1)) (r:=numS v k) (fun i=>((List.range i).map (fun j=>IntKind.wrap .u8 (shrI .i64 v ((8*(k - 1 - j):Nat):Int))),(k:Int) - 1 - (i:Int))) 0 k (Nat.zero_le _) ?_ ?_ ?_]
 · rfl
 · intro i _ hi
   have h1:decide ((k:Int) - 1 - (i:Int)≥0)=true:=decide_eq_true (by omega)
   have e:(k:Int) - 1 - (i:Int)=((k - 1 - i:Nat):Int):=by omega
   have h3:IntKind.wrap .i64 (8*((k:Int) - 1 - (i:Int)))=((8*(k - 1 - i):Nat):Int):=by rw[wrap64 (by omega)];omega
   have h2:decide (0≤((8*(k - 1 - i):Nat):Int))=true:=decide_eq_true (by omega)
   simp only[h1,h3,h2,cond_true]
   rw[bK (by rw[iE];simp;omega)]
   simp only[af]
   rw[ve (fun j=>IntKind.wrap .u8 (shrI .i64 v ((8*(k - 1 - j):Nat):Int))),wrap64 (by omega)]
   congr 3;omega
 · have h1:decide ((k:Int) - 1 - (k:Int)≥0)=false:=decide_eq_false (by omega)
   simp only[h1,cond_false];rfl
 · simp
def nQ (s:ak):Prop:=(0≤s.a∧s.a<65521)∧(0≤s.b∧s.b<65521)
theorem q5 {x:Int} (h:0≤x):0≤Int.tmod x 65521∧Int.tmod x 65521<65521:=by
 rw[Int.tmod_eq_emod_of_nonneg h];omega
theorem uz {s:ak} {b:Int} (hs:nQ s) (hb:0≤b∧b≤255):sA s b=⟨Int.tmod (s.a+b) 65521,Int.tmod (s.b+Int.tmod (s.a+b) 65521) 65521⟩∧nQ (sA s b):=by
 obtain⟨h1,h2⟩:=hs
 have r1:=q5 (x:=s.a+b) (by omega)
 have r2:=q5 (x:=s.b+Int.tmod (s.a+b) 65521) (by omega)
 have w:∀x:Int,0≤x∧x<4294967296→IntKind.wrap .u32 x=x:=fun x hx=>by rw[jf];omega
 have e:sA s b=⟨Int.tmod (s.a+b) 65521,Int.tmod (s.b+Int.tmod (s.a+b) 65521) 65521⟩:=by
  unfold sA
  simp only[w b (by omega),w (s.a+b) (by omega),w (s.b+Int.tmod (s.a+b) 65521) (by omega)]
 exact⟨e,by rw[e];exact⟨r1,r2⟩⟩
theorem uF:∀{p:List Int} {s:ak},nQ s→aS p→nQ (addS s p)
 |[],s,hs,_=>hs
 |b::p,s,hs,hb=>uF (p:=p) (uz hs (hb b (by simp))).2 (fun x hx=>hb x (by simp[hx]))
theorem yQ {s:ak} (hs:nQ s):iR s=s.b*65536+s.a:=by
 obtain⟨⟨a0,a1⟩,⟨b0,b1⟩⟩:=hs
 obtain⟨a,b⟩:=s
 simp only at a0 a1 b0 b1
 obtain⟨x,rfl⟩:∃x:Nat,a=x:=⟨a.toNat,by omega⟩
 obtain⟨y,rfl⟩:∃y:Nat,b=y:=⟨b.toNat,by omega⟩
 unfold iR
 have e1:shlI .u32 (y:Int) 16=((y*65536:Nat):Int):=by
  show IntKind.u32.wrap ((y:Int)*65536)=_
  rw[jf];omega
 simp only
 rw[e1]
 unfold orI
 have b1:(BitVec.ofInt IntKind.u32.bits ((y*65536:Nat):Int)|||BitVec.ofInt IntKind.u32.bits (x:Int)).toNat=y*65536+x:=by
  show(BitVec.ofInt 32 ((y*65536:Nat):Int)|||BitVec.ofInt 32 (x:Int)).toNat=_
  rw[BitVec.toNat_or,BitVec.toNat_ofInt,BitVec.toNat_ofInt]
  have h1:((((y*65536:Nat):Int))%((2^32:Nat):Int)).toNat=y*65536:=by omega
  have h2:(((x:Int))%((2^32:Nat):Int)).toNat=x:=by omega
  rw[h1,h2]
  have:=Nat.shiftLeft_add_eq_or_of_lt (b:=x) (i:=16) (by omega) y
  rw[Nat.shiftLeft_eq] at this
  exact this.symm
 rw[b1,jf];omega
def sum0 (p:List Int):ak:=addS ⟨1,0⟩ p
theorem q6 {p:List Int} (hb:aS p):nQ (sum0 p):=uF ⟨⟨by decide,by decide⟩,⟨by decide,by decide⟩⟩ hb
theorem xL (p:List Int) (b:Int):sum0 (p++[b])=sA (sum0 p) b:=by simp[sum0,addS]
theorem uJ {p:List Int} (hb:aS p) (hl:p.length<2^30):dW p=some (numS (iR (sum0 p)) 4):=by
 unfold dW
 have hv:=q6 hb
 rw[aW (s0:=(1,0,0)) (r:=((sum0 p).a,(sum0 p).b)) (fun i=>((sum0 (p.take i)).a,(sum0 (p.take i)).b,(i:Int))) 0 p.length (Nat.zero_le _) ?_ ?_ rfl]
 · simp only[af]
   obtain⟨⟨a0,a1⟩,⟨b0,b1⟩⟩:=hv
   rw[wrap64 (x:=(sum0 p).b*65536) (by omega),wrap64 (by omega),kj (z:=4) (k:=4) rfl (by omega),yQ ⟨⟨a0,a1⟩,⟨b0,b1⟩⟩]
   rfl
 · intro i _ hi
   have h1:decide ((i:Int)<(p.length:Int))=true:=decide_eq_true (by omega)
   simp only[h1,cond_true]
   rw[ar rfl hi]
   have hg:=hQ hb i
   have hi2:=q6 (fD hb i)
   have e:p.take (i+1)=p.take i++[p.getD i 0]:=by rw[List.take_succ_eq_append_getElem hi];simp[hi]
   rw[e,xL,(uz hi2 hg).1]
   obtain⟨⟨a0,a1⟩,⟨b0,b1⟩⟩:=hi2
   have r1:=q5 (x:=(sum0 (p.take i)).a+p.getD i 0) (by omega)
   simp only[af]
   rw[wrap64 (x:=p.getD i 0) (by omega),wrap64 (x:=(sum0 (p.take i)).a+p.getD i 0) (by omega),wrap64 (x:=(sum0 (p.take i)).b+_) (by omega),wrap64 (by omega)]
   rfl
 · have h1:decide ((p.length:Int)<(p.length:Int))=false:=decide_eq_false (by omega)
   simp only[h1,cond_false,List.take_length]
theorem Ac (p:List Int):fv p=dW p:=rfl
theorem yR (h:ab):((((((decide (h.Left<0))||(decide (h.Left>8)))||(decide (h.Round<0)))||(decide (h.Round≥4611686018427387904)))||(decide (h.Epoch<0)))||(decide (h.Epoch>4611686018427387904)))= !nv h:=by
 unfold nv
 rw[Bool.eq_iff_iff]
 simp only[Bool.or_eq_true,decide_eq_true_eq,Bool.not_eq_true',Bool.and_eq_false_iff,decide_eq_false_iff_not]
 omega
theorem vZ:∀cs:List (List Int),(cs.all fun c=>c.length==320)=true→(kN cs).length=322*cs.length:=by
 intro cs
 induction cs with
 |nil=>intro _;rfl
 |cons c cs ih=>
  intro h
  simp only[List.all_cons,Bool.and_eq_true,beq_iff_eq] at h
  have:=ih h.2
  simp only[kN] at this
  simp[kN,fx,this,h.1];omega
theorem lY {p q:List Int} (hp:aS p) (hq:aS q):aS (p++q):=fun b h=>(List.mem_append.1 h).elim (hp b) (hq b)
theorem uK (h:ab) (n:Nat):aS (mP h n):=by
 unfold mP
 refine lY (lY (lY (lY (fun b hb=>?_) (fun b hb=>?_)) (kn _ _)) (kn _ _)) (kn _ _)
 · simp only[List.mem_cons,List.not_mem_nil,or_false] at hb;omega
 · simp only[List.mem_cons,List.not_mem_nil,or_false] at hb
   rcases hb with rfl|rfl
   · omega
   · exact kL _
theorem uL {cs:List (List Int)} (hb:∀c∈cs,aS c):aS (kN cs):=by
 intro b h
 simp only[kN,List.mem_flatten,List.mem_map] at h
 obtain⟨l,⟨c,hc,rfl⟩,hl⟩:=h
 rcases List.mem_append.1 hl with h1|h1
 · exact kn _ _ b h1
 · exact hb c hc b h1
theorem yS (b:ao) (hb:∀c∈b.Cells,aS c):fw b=some (kO b):=by
 unfold fw kO
 rw[yR]
 cases hf: !nv b.Header with
 |true=>rfl
 |false=>
  rw[cond_false,cond_false]
  cases hc:decide ((b.Cells.length:Int)>256) with
  |true=>rfl
  |false=>
   have hc:=of_decide_eq_false hc
   rw[cond_false,cond_false,kj (z:=2) (k:=2) rfl (by omega)]
   simp only[af]
   rw[bK (by rw[iE];simp[fx]),kj (z:=8) (k:=8) rfl (by omega)]
   simp only[af]
   rw[bK (by rw[iE];simp[fx]),kj (z:=8) (k:=8) rfl (by omega)]
   simp only[af]
   rw[bK (by rw[iE];simp[fx])]
   simp only[af]
   have hd0:[67,72,82,78,1,IntKind.wrap .u8 b.Header.Left]++numS (b.Cells.length:Int) 2++numS b.Header.Round 8++numS b.Header.Epoch 8=mP b.Header b.Cells.length:=rfl
   rw[hd0]
   have hhl:=sC b.Header b.Cells.length
   rw[(uo (fun(i:Nat) (x:List Int)=>(x,(i:Int))) sD b.Cells (fun i r x=>x.length=24+322*i) (fun x=>Sum.inl x) (Sum.inr (([],64):List Int×Int)) ?_ ?_ (mP b.Header b.Cells.length) (by rw[hhl]) ?_).1]
   · rw[nR]
     cases hall:b.Cells.all fun c=>c.length==320 with
     |false=>rfl
     |true=>
      have hbl:=vZ _ hall
      simp only[cond_true,af]
      have hby:aS (mP b.Header b.Cells.length++kN b.Cells):=fun x hx=>by
       rcases List.mem_append.1 hx with h1|h1
       · exact uK _ _ x h1
       · exact uL hb x h1
      rw[Ac,uJ hby (by rw[List.length_append,hbl,hhl];omega)]
      simp only[af]
      rw[bK (by rw[iE,List.length_append,hbl,hhl,fx];omega)]
      rfl
   · intro i c r x hdr hi hget I
     have hlt:decide ((i:Int)<(b.Cells.length:Int))=true:=decide_eq_true (by omega)
     have hcd:b.Cells.getD i []=c:=by simp[List.getD,hget]
     simp only[hlt,cond_true,sD]
     rw[eQ (i:=i) [] rfl hi,hcd]
     simp only[af]
     have hb:((c.length:Int) != 320)= !(c.length==320):=by
      rw[Bool.eq_iff_iff];simp;omega
     rw[hb]
     cases h3:(c.length==320) with
     |false=>exact⟨fun _=>rfl,fun y hy=>(by cases hy)⟩
     |true=>
      have h3:c.length=320:=by simpa using h3
      refine⟨fun h=>(by cases h),fun y hy=>?_⟩
      cases hy
      simp only[Bool.not_true,cond_false]
      rw[kj (z:=2) (k:=2) rfl (by omega)]
      simp only[af]
      rw[bK (by rw[iE];simp[fx];omega)]
      simp only[af]
      rw[bK (by rw[iE];simp[fx];omega),wrap64 (by omega)]
      refine⟨by simp,by simp[fx,I,h3];omega⟩
   · intro x I
     have hlt:decide ((b.Cells.length:Int)<(b.Cells.length:Int))=false:=decide_eq_false (by omega)
     simp only[hlt,cond_false]
   · rfl
theorem sy {p:List Int} {b:Int} (hp:p.length≤6∨bigS p<2^55) (hb:aS p) (h:0≤b∧b≤255) (hl:p.length≤7):bigS (p++[b])=bigS p*256+b:=by
 obtain⟨v,h1,h2⟩:=fC p.length p rfl (by omega) hb
 have h56:v<2^56:=by
  have:256^p.length≤256^7:=Nat.pow_le_pow_right (by omega) (by omega)
  omega
 obtain⟨c,rfl⟩:∃c:Nat,b=c:=⟨b.toNat,by omega⟩
 have e:bigS (p++[(c:Int)])=orI .u64 (shlI .u64 (bigS p) 8) (IntKind.wrap .u64 (c:Int)):=by
  unfold bigS;rw[List.foldl_append];rfl
 rw[e,h1,tF h56 (by omega)]
 omega
theorem oV {p:List Int} (hb:aS p) (hl:p.length≤8):0≤bigS p∧bigS p<((256^p.length:Nat):Int):=by
 obtain⟨v,h1,h2⟩:=fC p.length p rfl hl hb
 omega
def kl (w:List Int):Int:=bif decide (w.length=8)&&decide (bigS (w.take 7)≥36028797018963968) then -1 else bigS w
theorem km {raw:List Int} {z y:Int} {a k:Nat} (hz:z=a) (hy:y=k) (hk:k≤8) (hk0:1≤k) (hl:a+k≤raw.length) (h30:raw.length<2^30) (hb:aS raw):bq raw z y=some (kl ((raw.drop a).take k)):=by
 subst hz hy
 have hwl:((raw.drop a).take k).length=k:=by simp;omega
 have hwb:aS ((raw.drop a).take k):=fD (l9 hb a) k
 have hat:∀i,i<k→raw.getD (a+i) 0=((raw.drop a).take k).getD i 0:=fun i hi=>by
  simp[List.getD,List.getElem?_take,List.getElem?_drop,hi]
 generalize (raw.drop a).take k=w at*
 have V:=fun i (hi:i≤k)=>oV (p:=w.take i) (fD hwb i) (by simp;omega)
 have tl:∀i,i≤k→(w.take i).length=i:=fun i hi=>by simp;omega
 have step:∀i,i<k→bigS (w.take i)<2^55→bigS (w.take (i+1))=bigS (w.take i)*256+w.getD i 0:=fun i hi h55=>by
  have e:w.take (i+1)=w.take i++[w.getD i 0]:=by rw[List.take_succ_eq_append_getElem (by omega)];simp[hwl,hi]
  rw[e]
  exact sy (.inr h55) (fD hwb i) (hQ hwb i) (by rw[tl i (by omega)];omega)
 have small:∀i,i≤6→i≤k→bigS (w.take i)<2^55:=fun i h6 hi=>by
  have:=(V i hi).2
  rw[tl i hi] at this
  have h2:256^i≤256^6:=Nat.pow_le_pow_right (by omega) h6
  omega
 unfold bq
 have hend:IntKind.wrap .i64 ((a:Int)+(k:Int))=(a:Int)+(k:Int):=wrap64 (by omega)
 rw[hend]
 have nx : ∀ i, i < k → bigS (w.take i) < 2 ^ 55 → (bif decide (((a : Int) + (i : Int)) < (a : Int) + (k : Int)) then
      bif decide (bigS (w.take i)≥36028797018963968) then
       some (.done (.inr (-1)))
      else
       (idx raw ((a:Int)+(i:Int))).bind fun x47=>
       some (.next (IntKind.wrap .i64 ((IntKind.wrap .i64 (bigS (w.take i)*256))+(IntKind.wrap .i64 x47)),IntKind.wrap .i64 ((a:Int)+(i:Int)+1)))
    else
      some (.done (.inl (bigS (w.take i)))) : Option (Ctl (Int × Int) (Int ⊕ Int))) = some (.next (bigS (w.take (i + 1)), (a : Int) + ((i + 1 : Nat) : Int))) := fun i hi h55 => by
  have h1:decide (((a:Int)+(i:Int))<(a:Int)+(k:Int))=true:=decide_eq_true (by omega)
  have h2:decide (bigS (w.take i)≥36028797018963968)=false:=decide_eq_false (by omega)
  rw[h1,h2,cond_true,cond_false,ar (i:=a+i) (by omega) (by omega),hat i hi]
  simp only[af]
  have hg:=hQ hwb i
  have hv:=(V i (by omega)).1
  rw[wrap64 (x:=bigS (w.take i)*256) (by omega),wrap64 (x:=w.getD i 0) (by omega),wrap64 (x:=bigS (w.take i)*256+_) (by omega),wrap64 (by omega),step i hi h55]
  congr 3
 cases hbad:decide (w.length=8)&&decide (bigS (w.take 7)≥36028797018963968) with
 |false=>
  have all55:∀i,i<k→bigS (w.take i)<2^55:=fun i hi=>by
    by_cases h6:i≤6
    · exact small i h6 (by omega)
    · have:i=7:=by omega
      subst this
      have hk8:w.length=8:=by omega
      rw[decide_eq_true hk8,Bool.true_and] at hbad
      have:=of_decide_eq_false hbad
      omega
  rw[aW (s0:=(0,(a:Int))) (r:=Sum.inl (bigS w)) (fun i=>(bigS (w.take i),(a:Int)+(i:Int))) 0 k (Nat.zero_le _) (fun i _ hi=>nx i hi (all55 i hi)) ?_ ?_]
  · simp only[af,kl,hbad,cond_false]
  · have h1:decide (((a:Int)+(k:Int))<(a:Int)+(k:Int))=false:=decide_eq_false (by omega)
    have:w.take k=w:=List.take_of_length_le (by omega)
    simp only[h1,cond_false,this]
  · simp[bigS]
 |true=>
  rw[Bool.and_eq_true,decide_eq_true_eq,decide_eq_true_eq] at hbad
  obtain⟨h8,h7⟩:=hbad
  have hk8:k=8:=by omega
  rw[aW (s0:=(0,(a:Int))) (r:=Sum.inr (-1)) (fun i=>(bigS (w.take i),(a:Int)+(i:Int))) 0 7 (Nat.zero_le _) (fun i _ hi=>nx i (by omega) (small i (by omega) (by omega))) ?_ ?_]
  · simp only[af,kl,h8,decide_true,Bool.true_and,decide_eq_true h7,cond_true]
  · have h1:decide (((a:Int)+((7:Nat):Int))<(a:Int)+(k:Int))=true:=decide_eq_true (by omega)
    simp only[h1,cond_true,decide_eq_true h7]
  · simp[bigS]
end Go.Proofs.YtobbmodjdkcdcaaGreatDoor
