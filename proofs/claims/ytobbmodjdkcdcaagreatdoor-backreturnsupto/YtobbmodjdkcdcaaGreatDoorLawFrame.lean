import Derived.Test.YtobbmodjdkcdcaaGreatDoorLawRiff
import Derived.Test.YtobbmodjdkcdcaaGreatDoorLawPeel
set_option linter.unusedVariables false
set_option linter.unusedSimpArgs false
set_option maxRecDepth 20000
namespace Go.Proofs.YtobbmodjdkcdcaaGreatDoor
open Go Go.Sim
set_option linter.unusedSectionVars false
variable [Fu]
def numS (v:Int) (k:Nat):List Int:=(List.range k).map fun j=>IntKind.wrap .u8 (shrI .u64 v ((8*(k - 1 - j):Nat):Int))
theorem fx (v:Int) (k:Nat):(numS v k).length=k:=by simp[numS]
theorem iQ {x:List Int} {v z:Int} {k:Nat} (hz:z=k) (hk:k≤8) (hx:x.length<2^31):cZ x v z=some (x++numS v k):=by
 subst hz
 unfold cZ
 rw[wrap64 (x:=(k:Int) - 1) (by omega)]
 rw[aW (s0:=(x,(k:Int) - 1)) (r:=x++numS v k) (fun i=>(x++(List.range i).map (fun j=>IntKind.wrap .u8 (shrI .u64 v ((8*(k - 1 - j):Nat):Int))),(k:Int) - 1 - (i:Int))) 0 k (Nat.zero_le _) ?_ ?_ ?_]
 · rfl
 · intro i _ hi
   have h1:decide ((k:Int) - 1 - (i:Int)≥0)=true:=decide_eq_true (by omega)
   have e:(k:Int) - 1 - (i:Int)=((k - 1 - i:Nat):Int):=by omega
   have h3:IntKind.wrap .i64 (8*((k:Int) - 1 - (i:Int)))=((8*(k - 1 - i):Nat):Int):=by rw[wrap64 (by omega)];omega
   have h2:decide (0≤((8*(k - 1 - i):Nat):Int))=true:=decide_eq_true (by omega)
   simp only[h1,h3,h2,cond_true]
   rw[bK (by rw[iE];simp;omega)]
   simp only[af]
   rw[List.append_assoc,ve (fun j=>IntKind.wrap .u8 (shrI .u64 v ((8*(k - 1 - j):Nat):Int))),wrap64 (by omega)]
   congr 3;omega
 · have h1:decide ((k:Int) - 1 - (k:Int)≥0)=false:=decide_eq_false (by omega)
   simp only[h1,cond_false,numS]
 · simp
theorem Ad (x:List Int) (v k:Int):cz x v k=cZ x v k:=rfl
def bigS (p:List Int):Int:=p.foldl (fun v b=>orI .u64 (shlI .u64 v 8) (IntKind.wrap .u64 b)) 0
theorem q7 {p:List Int} (h:p.length<2^30):eN p=some (bigS p):=by
 unfold eN
 rw[aW (s0:=(0,0)) (r:=bigS p) (fun i=>((p.take i).foldl (fun v b=>orI .u64 (shlI .u64 v 8) (IntKind.wrap .u64 b)) 0,(i:Int))) 0 p.length (Nat.zero_le _) ?_ ?_ rfl]
 · rfl
 · intro i _ hi
   have h1:decide ((i:Int)<(p.length:Int))=true:=decide_eq_true (by omega)
   simp only[h1,cond_true]
   rw[ar rfl hi,wrap64 (by omega)]
   simp only[af]
   rw[List.take_succ_eq_append_getElem hi,List.foldl_append]
   simp[List.getD,hi]
 · have h1:decide ((p.length:Int)<(p.length:Int))=false:=decide_eq_false (by omega)
   simp only[h1,cond_false,List.take_length,bigS]
def sA (s:ak) (b:Int):ak:=({({s with a:=Int.tmod (IntKind.wrap .u32 (s.a+(IntKind.wrap .u32 b))) 65521}:ak) with b:=Int.tmod (IntKind.wrap .u32 ((({s with a:=Int.tmod (IntKind.wrap .u32 (s.a+(IntKind.wrap .u32 b))) 65521}:ak).b)+(({s with a:=Int.tmod (IntKind.wrap .u32 (s.a+(IntKind.wrap .u32 b))) 65521}:ak).a))) 65521}:ak)
def addS (s:ak) (p:List Int):ak:=p.foldl sA s
theorem qb (s:ak) (p q:List Int):addS s (p++q)=addS (addS s p) q:=by simp[addS,List.foldl_append]
theorem tz {s:ak} {p:List Int} (h:p.length<2^30):fe s p=some (addS s p):=by
 unfold fe
 rw[aW (s0:=(0,s)) (r:=addS s p) (fun i=>((i:Int),addS s (p.take i))) 0 p.length (Nat.zero_le _) ?_ ?_ rfl]
 · rfl
 · intro i _ hi
   have h1:decide ((i:Int)<(p.length:Int))=true:=decide_eq_true (by omega)
   simp only[h1,cond_true]
   rw[ar rfl hi,wrap64 (by omega)]
   simp only[af]
   rw[List.take_succ_eq_append_getElem hi,qb]
   have e:p.getD i 0=p[i]:=by simp[List.getD,hi]
   rw[e]
   rfl
 · have h1:decide ((p.length:Int)<(p.length:Int))=false:=decide_eq_false (by omega)
   simp only[h1,cond_false,List.take_length]
def iR (s:ak):Int:=orI .u32 (shlI .u32 s.b 16) s.a
theorem mO (s:ak):0≤iR s∧iR s<4294967296:=by
 have:∀x:Int,0≤IntKind.u32.wrap x∧IntKind.u32.wrap x<4294967296:=fun x=>by rw[jf];omega
 exact this _
theorem tF {v b:Nat} (hv:v<2^56) (hb:b<256):orI .u64 (shlI .u64 (v:Int) 8) (IntKind.wrap .u64 (b:Int))=((v*256+b:Nat):Int):=by
 have e1:shlI .u64 (v:Int) 8=((v*256:Nat):Int):=by
  show IntKind.u64.wrap ((v:Int)*256)=_
  rw[gl (by omega)];omega
 rw[e1,gl (by omega)]
 unfold orI
 have b1:(BitVec.ofInt IntKind.u64.bits ((v*256:Nat):Int)|||BitVec.ofInt IntKind.u64.bits (b:Int)).toNat=v*256+b:=by
  show(BitVec.ofInt 64 ((v*256:Nat):Int)|||BitVec.ofInt 64 (b:Int)).toNat=_
  rw[BitVec.toNat_or,BitVec.toNat_ofInt,BitVec.toNat_ofInt]
  have h1:((((v*256:Nat):Int))%((2^64:Nat):Int)).toNat=v*256:=by omega
  have h2:(((b:Int))%((2^64:Nat):Int)).toNat=b:=by omega
  rw[h1,h2]
  have:=Nat.shiftLeft_add_eq_or_of_lt (b:=b) (i:=8) (by simpa using hb) v
  rw[Nat.shiftLeft_eq] at this
  exact this.symm
 rw[b1,gl (by omega)]
theorem sB (v:Nat) (k:Nat) (hk:k<8):numS (v:Int) (k+1)=numS ((v / 256:Nat):Int) k++[((v%256:Nat):Int)]:=by
 have sh:∀(x s:Nat),s≤64→IntKind.wrap .u8 (shrI .u64 (x:Int) (s:Int))=((x / 2^s%256:Nat):Int):=fun x s hs=>by
   rw[wrap8]
   unfold shrI
   have e:min ((s:Int).toNat) (IntKind.u64.bits)=s:=by
    have:IntKind.u64.bits=64:=rfl
    rw[this,Int.toNat_natCast];omega
   rw[e]
   have:((x:Int)).fdiv (2^s)=((x / 2^s:Nat):Int):=by
    rw[show((2:Int)^s)=((2^s:Nat):Int) by simp]
    rw[Int.fdiv_eq_ediv_of_nonneg _ (Int.natCast_nonneg _)]
    rfl
   rw[this];omega
 unfold numS
 rw[List.range_succ,List.map_append]
 congr 1
 · apply List.map_congr_left
   intro j hj
   have hj:=List.mem_range.1 hj
   rw[sh _ _ (by omega),sh _ _ (by omega),Nat.div_div_eq_div_mul]
   congr 2
   rw[show(256:Nat)=2^8 by rfl,←Nat.pow_add]
   congr 2;omega
 · simp only[List.map_cons,List.map_nil]
   rw[sh _ _ (by omega)]
   congr 2
   simp
theorem uM:∀(k v:Nat),k≤8→v<256^k→v<2^63→bigS (numS (v:Int) k)=(v:Int)
 |0,v,_,h,_=>by
  have:v=0:=by simpa using h
  subst this;rfl
 |k+1,v,hk,h,h63=>by
  have ih:=uM k (v / 256) (by omega) (by rw[Nat.pow_succ] at h;omega) (by omega)
  rw[sB v k (by omega)]
  unfold bigS at ih⊢
  rw[List.foldl_append,ih]
  simp only[List.foldl_cons,List.foldl_nil]
  rw[tF (by omega) (by omega)]
  congr 1;omega
theorem kn (v:Int) (k:Nat):aS (numS v k):=by
 intro b hb
 obtain⟨j,_,rfl⟩:=List.mem_map.1 hb
 exact kL _
def nv (h:ab):Bool:=((((((decide (h.Left≥0))&&(decide (h.Left≤8)))&&(decide (h.Round≥0)))&&(decide (h.Round≤4611686018427387903)))&&(decide (h.Epoch≥0)))&&(decide (h.Epoch≤4611686018427387904)))
def mP (h:ab) (n:Nat):List Int:=[67,72,82,78]++[1,IntKind.wrap .u8 h.Left]++numS (n:Int) 2++numS h.Round 8++numS h.Epoch 8
def kN (cs:List (List Int)):List Int:=(cs.map fun c=>numS 320 2++c).flatten
def sumS (h:ab) (cs:List (List Int)):ak:=addS ⟨1,0⟩ (mP h cs.length++kN cs)
def wX (b:ao):List Int:=mP b.Header b.Cells.length++kN b.Cells++numS (iR (sumS b.Header b.Cells)) 4
def kO (b:ao):List Int×Int:=
 bif !nv b.Header then([],62) else bif decide ((b.Cells.length:Int)>256) then([],63) else
 bif b.Cells.all fun c=>c.length==320 then(wX b,0) else([],64)
theorem sC (h:ab) (n:Nat):(mP h n).length=24:=by simp[mP,fx]
def sD (_:Nat) (x:List Int) (c:List Int):Option (List Int):=bif c.length==320 then some (x++(numS 320 2++c)) else none
theorem nR:∀(cs:List (List Int)) (i:Nat) (x:List Int),oR sD i x cs=bif cs.all fun c=>c.length==320 then some (x++kN cs) else none
 |[],i,x=>by simp[oR,kN]
 |c::cs,i,x=>by
  simp only[oR,sD,List.all_cons]
  cases hc:(c.length==320) with
  |false=>rfl
  |true=>
   simp only[cond_true,Bool.true_and]
   rw[nR cs]
   simp[kN]
theorem wa (b:ao):gX b=some (kO b):=by
 unfold gX jR kO
 simp only[af]
 show(bif !nv b.Header then _ else _)=_
 cases hf: !nv b.Header with
 |true=>rfl
 |false=>
  have hf:nv b.Header=true:=by simpa using hf
  simp only[nv,Bool.and_eq_true,decide_eq_true_eq] at hf
  obtain⟨⟨⟨⟨⟨f1,f2⟩,f3⟩,f4⟩,f5⟩,f6⟩:=hf
  rw[cond_false,cond_false]
  cases hc:decide ((b.Cells.length:Int)>256) with
  |true=>rfl
  |false=>
   have hc:=of_decide_eq_false hc
   rw[cond_false,cond_false,wrap64 (x:=(b.Cells.length:Int)*322) (by omega),wrap64 (x:=24+(b.Cells.length:Int)*322) (by omega),wrap64 (x:=24+(b.Cells.length:Int)*322+4) (by omega)]
   have g:mkB 0 (24+(b.Cells.length:Int)*322+4)=true:=by unfold mkB;rw[AZ];simp;omega
   have e0:List.replicate (Int.toNat 0) (0:Int)=[]:=rfl
   rw[g,cond_true,e0,bK (by rw[iE];simp)]
   simp only[af,List.nil_append]
   rw[bK (by rw[iE];simp)]
   simp only[af,Ad]
   rw[gl (x:=(b.Cells.length:Int)) (by omega),gl (x:=b.Header.Round) (by omega),gl (x:=b.Header.Epoch) (by omega)]
   rw[iQ (z:=2) (k:=2) rfl (by omega) (by simp)]
   simp only[af]
   rw[iQ (z:=8) (k:=8) rfl (by omega) (by simp[fx])]
   simp only[af]
   rw[iQ (z:=8) (k:=8) rfl (by omega) (by simp[fx])]
   simp only[af]
   have hd0:[67,72,82,78]++[1,IntKind.wrap .u8 b.Header.Left]++numS (b.Cells.length:Int) 2++numS b.Header.Round 8++numS b.Header.Epoch 8=mP b.Header b.Cells.length:=rfl
   rw[hd0]
   have hhl:=sC b.Header b.Cells.length
   rw[(uo (fun(i:Nat) (x:List Int)=>(x,(i:Int))) sD b.Cells (fun i r x=>x.length=24+322*i) (fun x=>Sum.inl x) (Sum.inr (([],64):List Int×Int)) ?_ ?_ (mP b.Header b.Cells.length) (by rw[hhl]) ?_).1]
   · rw[nR]
     cases hall:b.Cells.all fun c=>c.length==320 with
     |false=>rfl
     |true=>
      have hbl:∀cs:List (List Int),(cs.all fun c=>c.length==320)=true→(kN cs).length=322*cs.length:=by
       intro cs
       induction cs with
       |nil=>intro _;rfl
       |cons c cs ih=>
        intro h
        simp only[List.all_cons,Bool.and_eq_true,beq_iff_eq] at h
        have:=ih h.2
        simp only[kN] at this
        simp[kN,fx,this,h.1];omega
      have hb:=hbl _ hall
      simp only[cond_true,af]
      rw[tz (by rw[List.length_append,hb,hhl];omega)]
      simp only[af,dK]
      have hfr:=mO (sumS b.Header b.Cells)
      show((cZ _ (IntKind.wrap .u64 (iR (sumS b.Header b.Cells))) 4).bind _)=_
      rw[gl (by omega),iQ (z:=4) (k:=4) rfl (by omega) (by rw[List.length_append,hb,hhl];omega)]
      rfl
   · intro i c r x hdr hi hget I
     have hlt:decide ((i:Int)<(b.Cells.length:Int))=true:=decide_eq_true (by omega)
     have hcd:b.Cells.getD i []=c:=by simp[List.getD,hget]
     simp only[hlt,cond_true,sD]
     rw[eQ (i:=i) [] rfl hi,hcd]
     simp only[af]
     have hb:((c.length:Int) != 320)= !(c.length==320):=by
      rw[Bool.eq_iff_iff];simp;omega
     rw[hb]
     cases h3:(c.length==320) with
     |false=>exact⟨fun _=>rfl,fun y hy=>(by cases hy)⟩
     |true=>
      have h3:c.length=320:=by simpa using h3
      refine⟨fun h=>(by cases h),fun y hy=>?_⟩
      cases hy
      simp only[Bool.not_true,cond_false]
      rw[iQ (z:=2) (k:=2) rfl (by omega) (by omega)]
      simp only[af]
      rw[bK (by rw[iE];simp[fx];omega),wrap64 (by omega)]
      refine⟨by simp,by simp[fx,I,h3];omega⟩
   · intro x I
     have hlt:decide ((b.Cells.length:Int)<(b.Cells.length:Int))=false:=decide_eq_false (by omega)
     simp only[hlt,cond_false]
   · rfl
end Go.Proofs.YtobbmodjdkcdcaaGreatDoor
