import Derived.Test.YtobbmodjdkcdcaaGreatDoorLawFeed
set_option linter.all false
set_option maxRecDepth 20000
set_option maxHeartbeats 1000000
namespace Go.Proofs.YtobbmodjdkcdcaaGreatDoor
open Go Go.Sim
variable [Fu]
theorem l5 {v z:Int} {k:Nat} (hz:z=k) (hk:k≤8):cu v z=some (numS v k):=by subst hz;unfold cu;rw[wrap64 (x:=(k:Int) - 1) (by omega)];rw[aP (s0:=([],(k:Int) - 1)) (r:=numS v k) (λi=>((List.range i).map (λj=>IntKind.wrap .u8 (shrI .i64 v ((8*(k - 1 - j):Nat):Int))),(k:Int) - 1 - (i:Int))) 0 k (Nat.zero_le _) ?_ ?_ ?_];rfl;intro i _ hi;have h1:decide ((k:Int) - 1 - (i:Int)≥0)=true:=decide_eq_true (by omega);(have e:(k:Int) - 1 - (i:Int)=((k - 1 - i:Nat):Int):=by omega);(have h3:IntKind.wrap .i64 (8*((k:Int) - 1 - (i:Int)))=((8*(k - 1 - i):Nat):Int):=by rw[wrap64 (by omega)];omega);have h2:decide (0≤((8*(k - 1 - i):Nat):Int))=true:=decide_eq_true (by omega);simp only[h1,h3,h2,cond_true];rw[aR (by rw[dk];simp;omega)];simp only[ab];rw[fp (λj=>IntKind.wrap .u8 (shrI .i64 v ((8*(k - 1 - j):Nat):Int))),wrap64 (by omega)];congr 3;omega;have h1:decide ((k:Int) - 1 - (k:Int)≥0)=false:=decide_eq_false (by omega);simp only[h1,cond_false];rfl;simp
def qz (s:an):Prop:=(0≤s.a∧s.a<65521)∧(0≤s.b∧s.b<65521)
theorem ux {x:Int} (h:0≤x):0≤Int.tmod x 65521∧Int.tmod x 65521<65521:=by rw[Int.tmod_eq_emod_of_nonneg h];omega
theorem zy {s:an} {b:Int} (hs:qz s) (hb:0≤b∧b≤255):wX s b=⟨Int.tmod (s.a+b) 65521,Int.tmod (s.b+Int.tmod (s.a+b) 65521) 65521⟩∧qz (wX s b):=by obtain⟨h1,h2⟩:=hs;have r1:=ux (x:=s.a+b) (by omega);have r2:=ux (x:=s.b+Int.tmod (s.a+b) 65521) (by omega);(have w:∀x:Int,0≤x∧x<4294967296→IntKind.wrap .u32 x=x:=λx hx=>by rw[kM];omega);(have e:wX s b=⟨Int.tmod (s.a+b) 65521,Int.tmod (s.b+Int.tmod (s.a+b) 65521) 65521⟩:=by unfold wX;simp only[w b (by omega),w (s.a+b) (by omega),w (s.b+Int.tmod (s.a+b) 65521) (by omega)]);exact⟨e,by rw[e];exact⟨r1,r2⟩⟩
theorem zz:∀{p:List Int} {s:an},qz s→aH p→qz (addS s p)|[],s,hs,_=>hs|b::p,s,hs,hb=>zz (p:=p) (zy hs (hb b (by simp))).2 (λx hx=>hb x (by simp[hx]))
theorem DF {s:an} (hs:qz s):fk s=s.b*65536+s.a:=by obtain⟨⟨a0,a1⟩,⟨b0,b1⟩⟩:=hs;obtain⟨a,b⟩:=s;simp only at a0 a1 b0 b1;obtain⟨x,rfl⟩:∃x:Nat,a=x:=⟨a.toNat,by omega⟩;obtain⟨y,rfl⟩:∃y:Nat,b=y:=⟨b.toNat,by omega⟩;unfold fk;(have e1:shlI .u32 (y:Int) 16=((y*65536:Nat):Int):=by show IntKind.u32.wrap ((y:Int)*65536)=_;rw[kM];omega);simp only;rw[e1];unfold orI;(have b1:(BitVec.ofInt IntKind.u32.bits ((y*65536:Nat):Int)|||BitVec.ofInt IntKind.u32.bits (x:Int)).toNat=y*65536+x:=by show(BitVec.ofInt 32 ((y*65536:Nat):Int)|||BitVec.ofInt 32 (x:Int)).toNat=_;rw[BitVec.toNat_or,BitVec.toNat_ofInt,BitVec.toNat_ofInt];(have h1:((((y*65536:Nat):Int))%((2^32:Nat):Int)).toNat=y*65536:=by omega);(have h2:(((x:Int))%((2^32:Nat):Int)).toNat=x:=by omega);rw[h1,h2];have:=Nat.shiftLeft_add_eq_or_of_lt (b:=x) (i:=16) (by omega) y;rw[Nat.shiftLeft_eq] at this;exact this.symm);rw[b1,kM];omega
def sum0 (p:List Int):an:=addS ⟨1,0⟩ p
theorem uy {p:List Int} (hb:aH p):qz (sum0 p):=zz ⟨⟨by decide,by decide⟩,⟨by decide,by decide⟩⟩ hb
theorem CA (p:List Int) (b:Int):sum0 (p++[b])=wX (sum0 p) b:=by simp[sum0,addS]
theorem zF {p:List Int} (hb:aH p) (hl:p.length<2^30):eZ p=some (numS (fk (sum0 p)) 4):=by unfold eZ;have hv:=uy hb;rw[aP (s0:=(1,0,0)) (r:=((sum0 p).a,(sum0 p).b)) (λi=>((sum0 (p.take i)).a,(sum0 (p.take i)).b,(i:Int))) 0 p.length (Nat.zero_le _) ?_ ?_ rfl];simp only[ab];obtain⟨⟨a0,a1⟩,⟨b0,b1⟩⟩:=hv;rw[wrap64 (x:=(sum0 p).b*65536) (by omega),wrap64 (by omega),l5 (z:=4) (k:=4) rfl (by omega),DF ⟨⟨a0,a1⟩,⟨b0,b1⟩⟩];rfl;intro i _ hi;have h1:decide ((i:Int)<(p.length:Int))=true:=decide_eq_true (by omega);simp only[h1,cond_true];rw[ar rfl hi];have hg:=gz hb i;have hi2:=uy (dT hb i);(have e:p.take (i+1)=p.take i++[p.getD i 0]:=by rw[List.take_succ_eq_append_getElem hi];simp[hi]);rw[e,CA,(zy hi2 hg).1];obtain⟨⟨a0,a1⟩,⟨b0,b1⟩⟩:=hi2;have r1:=ux (x:=(sum0 (p.take i)).a+p.getD i 0) (by omega);simp only[ab];rw[wrap64 (x:=p.getD i 0) (by omega),wrap64 (x:=(sum0 (p.take i)).a+p.getD i 0) (by omega),wrap64 (x:=(sum0 (p.take i)).b+_) (by omega),wrap64 (by omega)];rfl;have h1:decide ((p.length:Int)<(p.length:Int))=false:=decide_eq_false (by omega);simp only[h1,cond_false,List.take_length]
theorem EU (p:List Int):gl p=eZ p:=rfl
theorem DG (h:af):((((((decide (h.Left<0))||(decide (h.Left>8)))||(decide (h.Round<0)))||(decide (h.Round≥4611686018427387904)))||(decide (h.Epoch<0)))||(decide (h.Epoch>4611686018427387904)))= !oK h:=by unfold oK;rw[Bool.eq_iff_iff];simp only[Bool.or_eq_true,decide_eq_true_eq,Bool.not_eq_true',Bool.and_eq_false_iff,decide_eq_false_iff_not];omega
theorem Bb:∀cs:List (List Int),(cs.all λc=>c.length==320)=true→(iJ cs).length=322*cs.length:=by intro cs;induction cs with|nil=>intro _;rfl|cons c cs ih=>intro h;simp only[List.all_cons,Bool.and_eq_true,beq_iff_eq] at h;have:=ih h.2;simp only[iJ] at this;simp[iJ,bW,this,h.1];omega
theorem nQ {p q:List Int} (hp:aH p) (hq:aH q):aH (p++q):=λb h=>(List.mem_append.1 h).elim (hp b) (hq b)
theorem zK (h:af) (n:Nat):aH (nc h n):=by unfold nc;refine nQ (nQ (nQ (nQ (λb hb=>?_) (λb hb=>?_)) (mc _ _)) (mc _ _)) (mc _ _);simp only[List.mem_cons,List.not_mem_nil,or_false] at hb;omega;simp only[List.mem_cons,List.not_mem_nil,or_false] at hb;rcases hb with rfl|rfl;omega;exact lu _
theorem zL {cs:List (List Int)} (hb:∀c∈cs,aH c):aH (iJ cs):=by intro b h;simp only[iJ,List.mem_flatten,List.mem_map] at h;obtain⟨l,⟨c,hc,rfl⟩,hl⟩:=h;rcases List.mem_append.1 hl with h1|h1;exact mc _ _ b h1;exact hb c hc b h1
theorem DH (b:aA) (hb:∀c∈b.Cells,aH c):gm b=some (kc b):=by unfold gm kc;rw[DG];cases hf: !oK b.Header with|true=>rfl|false=>rw[cond_false,cond_false];cases hc:decide ((b.Cells.length:Int)>256) with|true=>rfl|false=>have hc:=of_decide_eq_false hc;rw[cond_false,cond_false,l5 (z:=2) (k:=2) rfl (by omega)];simp only[ab];rw[aR (by rw[dk];simp[bW]),l5 (z:=8) (k:=8) rfl (by omega)];simp only[ab];rw[aR (by rw[dk];simp[bW]),l5 (z:=8) (k:=8) rfl (by omega)];simp only[ab];rw[aR (by rw[dk];simp[bW])];simp only[ab];have hd0:[67,72,82,78,1,IntKind.wrap .u8 b.Header.Left]++numS (b.Cells.length:Int) 2++numS b.Header.Round 8++numS b.Header.Epoch 8=nc b.Header b.Cells.length:=rfl;rw[hd0];have hhl:=w4 b.Header b.Cells.length;rw[(pf (λ(i:Nat) (x:List Int)=>(x,(i:Int))) w5 b.Cells (λi r x=>x.length=24+322*i) (λx=>Sum.inl x) (Sum.inr (([],64):List Int×Int)) ?_ ?_ (nc b.Header b.Cells.length) (by rw[hhl]) ?_).1];rw[qF];(cases hall:b.Cells.all λc=>c.length==320 with|false=>rfl|true=>have hbl:=Bb _ hall;simp only[cond_true,ab];(have hby:aH (nc b.Header b.Cells.length++iJ b.Cells):=λx hx=>by rcases List.mem_append.1 hx with h1|h1;exact zK _ _ x h1;exact zL hb x h1);rw[EU,zF hby (by rw[List.length_append,hbl,hhl];omega)];simp only[ab];rw[aR (by rw[dk,List.length_append,hbl,hhl,bW];omega)];rfl);intro i c r x hdr hi hget I;have hlt:decide ((i:Int)<(b.Cells.length:Int))=true:=decide_eq_true (by omega);(have hcd:b.Cells.getD i []=c:=by simp[List.getD,hget]);simp only[hlt,cond_true,w5];rw[du (i:=i) [] rfl hi,hcd];simp only[ab];(have hb:((c.length:Int) != 320)= !(c.length==320):=by rw[Bool.eq_iff_iff];simp;omega);rw[hb];(cases h3:(c.length==320) with|false=>exact⟨λ_=>rfl,λy hy=>(by cases hy)⟩|true=>(have h3:c.length=320:=by simpa using h3);refine⟨λh=>(by cases h),λy hy=>?_⟩;cases hy;simp only[Bool.not_true,cond_false];rw[l5 (z:=2) (k:=2) rfl (by omega)];simp only[ab];rw[aR (by rw[dk];simp[bW];omega)];simp only[ab];rw[aR (by rw[dk];simp[bW];omega),wrap64 (by omega)];refine⟨by simp,by simp[bW,I,h3];omega⟩);intro x I;have hlt:decide ((b.Cells.length:Int)<(b.Cells.length:Int))=false:=decide_eq_false (by omega);simp only[hlt,cond_false];rfl
theorem wV {p:List Int} {b:Int} (hp:p.length≤6∨bigS p<2^55) (hb:aH p) (h:0≤b∧b≤255) (hl:p.length≤7):bigS (p++[b])=bigS p*256+b:=by obtain⟨v,h1,h2⟩:=gp p.length p rfl (by omega) hb;(have h56:v<2^56:=by have:256^p.length≤256^7:=Nat.pow_le_pow_right (by omega) (by omega);omega);obtain⟨c,rfl⟩:∃c:Nat,b=c:=⟨b.toNat,by omega⟩;(have e:bigS (p++[(c:Int)])=orI .u64 (shlI .u64 (bigS p) 8) (IntKind.wrap .u64 (c:Int)):=by unfold bigS;rw[List.foldl_append];rfl);rw[e,h1,ya h56 (by omega)];omega
theorem rn {p:List Int} (hb:aH p) (hl:p.length≤8):0≤bigS p∧bigS p<((256^p.length:Nat):Int):=by obtain⟨v,h1,h2⟩:=gp p.length p rfl hl hb;omega
def l8 (w:List Int):Int:=bif decide (w.length=8)&&decide (bigS (w.take 7)≥36028797018963968) then -1 else bigS w
theorem l9 {raw:List Int} {z y:Int} {a k:Nat} (hz:z=a) (hy:y=k) (hk:k≤8) (hk0:1≤k) (hl:a+k≤raw.length) (h30:raw.length<2^30) (hb:aH raw):bp raw z y=some (l8 ((raw.drop a).take k)):=by
 subst hz hy
 have hwl:((raw.drop a).take k).length=k:=by simp;omega
 have hwb:aH ((raw.drop a).take k):=dT (ij hb a) k
 have hat:∀i,i<k→raw.getD (a+i) 0=((raw.drop a).take k).getD i 0:=λi hi=>by
  simp[List.getD,List.getElem?_take,List.getElem?_drop,hi]
 generalize (raw.drop a).take k=w at*
 have V:=λi (hi:i≤k)=>rn (p:=w.take i) (dT hwb i) (by simp;omega)
 have tl:∀i,i≤k→(w.take i).length=i:=λi hi=>by simp;omega
 have step:∀i,i<k→bigS (w.take i)<2^55→bigS (w.take (i+1))=bigS (w.take i)*256+w.getD i 0:=λi hi h55=>by
  have e:w.take (i+1)=w.take i++[w.getD i 0]:=by rw[List.take_succ_eq_append_getElem (by omega)];simp[hwl,hi]
  rw[e]
  exact wV (.inr h55) (dT hwb i) (gz hwb i) (by rw[tl i (by omega)];omega)
 have small:∀i,i≤6→i≤k→bigS (w.take i)<2^55:=λi h6 hi=>by
  have:=(V i hi).2
  rw[tl i hi] at this
  have h2:256^i≤256^6:=Nat.pow_le_pow_right (by omega) h6
  omega
 unfold bp
 have hend:IntKind.wrap .i64 ((a:Int)+(k:Int))=(a:Int)+(k:Int):=wrap64 (by omega)
 rw[hend]
 have nx : ∀ i, i < k → bigS (w.take i) < 2 ^ 55 → (bif decide (((a : Int) + (i : Int)) < (a : Int) + (k : Int)) then
      bif decide (bigS (w.take i)≥36028797018963968) then
       some (.done (.inr (-1)))
      else
       (idx raw ((a:Int)+(i:Int))).bind λx47=>
       some (.next (IntKind.wrap .i64 ((IntKind.wrap .i64 (bigS (w.take i)*256))+(IntKind.wrap .i64 x47)),IntKind.wrap .i64 ((a:Int)+(i:Int)+1)))
    else
      some (.done (.inl (bigS (w.take i)))) : Option (Ctl (Int × Int) (Int ⊕ Int))) = some (.next (bigS (w.take (i + 1)), (a : Int) + ((i + 1 : Nat) : Int))) := λi hi h55 => by
  have h1:decide (((a:Int)+(i:Int))<(a:Int)+(k:Int))=true:=decide_eq_true (by omega)
  have h2:decide (bigS (w.take i)≥36028797018963968)=false:=decide_eq_false (by omega)
  rw[h1,h2,cond_true,cond_false,ar (i:=a+i) (by omega) (by omega),hat i hi]
  simp only[ab]
  have hg:=gz hwb i
  have hv:=(V i (by omega)).1
  rw[wrap64 (x:=bigS (w.take i)*256) (by omega),wrap64 (x:=w.getD i 0) (by omega),wrap64 (x:=bigS (w.take i)*256+_) (by omega),wrap64 (by omega),step i hi h55]
  congr 3
 cases hbad:decide (w.length=8)&&decide (bigS (w.take 7)≥36028797018963968) with
 |false=>
  have all55:∀i,i<k→bigS (w.take i)<2^55:=λi hi=>by
    by_cases h6:i≤6
    · exact small i h6 (by omega)
    · have:i=7:=by omega
      subst this
      have hk8:w.length=8:=by omega
      rw[decide_eq_true hk8,Bool.true_and] at hbad
      have:=of_decide_eq_false hbad
      omega
  rw[aP (s0:=(0,(a:Int))) (r:=Sum.inl (bigS w)) (λi=>(bigS (w.take i),(a:Int)+(i:Int))) 0 k (Nat.zero_le _) (λi _ hi=>nx i hi (all55 i hi)) ?_ ?_]
  · simp only[ab,l8,hbad,cond_false]
  · have h1:decide (((a:Int)+(k:Int))<(a:Int)+(k:Int))=false:=decide_eq_false (by omega)
    have:w.take k=w:=List.take_of_length_le (by omega)
    simp only[h1,cond_false,this]
  · simp[bigS]
 |true=>
  rw[Bool.and_eq_true,decide_eq_true_eq,decide_eq_true_eq] at hbad
  obtain⟨h8,h7⟩:=hbad
  have hk8:k=8:=by omega
  rw[aP (s0:=(0,(a:Int))) (r:=Sum.inr (-1)) (λi=>(bigS (w.take i),(a:Int)+(i:Int))) 0 7 (Nat.zero_le _) (λi _ hi=>nx i (by omega) (small i (by omega) (by omega))) ?_ ?_]
  · simp only[ab,l8,h8,decide_true,Bool.true_and,decide_eq_true h7,cond_true]
  · have h1:decide (((a:Int)+((7:Nat):Int))<(a:Int)+(k:Int))=true:=decide_eq_true (by omega)
    simp only[h1,cond_true,decide_eq_true h7]
  · simp[bigS]
end Go.Proofs.YtobbmodjdkcdcaaGreatDoor
