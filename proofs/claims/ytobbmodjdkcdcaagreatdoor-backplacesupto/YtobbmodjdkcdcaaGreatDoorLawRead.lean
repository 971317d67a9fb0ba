import Derived.Test.YtobbmodjdkcdcaaGreatDoorLawFrame3
set_option linter.unusedVariables false
set_option linter.unusedSimpArgs false
set_option linter.unusedSectionVars false
set_option maxRecDepth 20000
set_option maxHeartbeats 1000000
namespace Go.Proofs.YtobbmodjdkcdcaaGreatDoor
open Go Go.Sim
variable [Fu]
abbrev FSt:=(List Int)×(List (List Int))×(List Int)×Int×Int×Int×aa×am×Int×Int
noncomputable def gz:FSt→Option (Ctl FSt ((List (List Int))×(List Int)×Int×Int×Int×aa×am×Int×Int)):=fun(x324,x326,x328,x329,x330,x331,x332,x333,x334,x335)=>
 bif x334==0 then
  (bv (⟨x328,x329,x330,x331,x332,x333,x334,x335⟩:av)).bind fun y394=>
  bif decide ((IntKind.wrap .i64 (y394 - (x328.length:Int)))>(x324.length:Int)) then
   (app x328 x324).bind fun z396=>
   some (.done (x326,z396,IntKind.wrap .i64 (x329+(x324.length:Int)),x330,x331,x332,x333,x334,x335))
  else
   (sub x324 0 (IntKind.wrap .i64 (y394 - (x328.length:Int)))).bind fun x403=>
   (app x328 x403).bind fun z405=>
   (sub x324 (IntKind.wrap .i64 (y394 - (x328.length:Int))) (x324.length:Int)).bind fun x409=>
   ((bif x330==7 then
    (bQ z405).bind fun y430=>
    (app x326 [y430]).bind fun z433=>
    some z433
   else
    some x326
    :Option (List (List Int)))).bind fun x418=>
   (an (⟨z405,IntKind.wrap .i64 (x329+(IntKind.wrap .i64 (y394 - (x328.length:Int)))),x330,x331,x332,x333,x334,x335⟩:av)).bind fun y422=>
   bif y422.1 != 0 then
    some (.done (x418,y422.2.field,y422.2.at_,y422.2.stage,y422.2.left,y422.2.header,y422.2.sum,y422.1,IntKind.wrap .i64 (y422.2.at_ - (y422.2.field.length:Int))))
   else
    bif decide ((0:Int)≤0∧(0:Int)≤0∧(0:Int)≤(y422.2.field.length:Int)) then
    some (.next (x409,x418,List.take (Int.toNat 0) y422.2.field,y422.2.at_,y422.2.stage,y422.2.left,y422.2.header,y422.2.sum,y422.1,y422.2.place))
    else none
 else
  some (.done (x326,x328,x329,x330,x331,x332,x333,x334,x335))
theorem fG {w rest:List Int} {cells:List (List Int)} {at_ left left':Int} {hd hd':aa} {s s':am} {j:Nat} {j' z:Int} (hz:z=j) (hj:j<10) (hw:w.length=cn j)
  (hat:0≤at_∧at_≤2^40) (hr:rest.length<2^29) (hc:cells.length≤1000)
  (h:∀a,an ⟨w,a,z,left,hd,s,0,0⟩=some (0,⟨w,a,j',left',hd',s',0,0⟩)):
  Loop.run gz (w++rest,cells,[],at_,z,left,hd,s,0,0)=Loop.run gz (rest,if j=7 then cells++[w] else cells,[],at_+(cn j:Int),j',left',hd',s',0,0):=by
 subst hz
 apply Loop.run_next
 obtain⟨z1,z2,z3⟩:=oQ hj
 have hsize:bv (⟨[],at_,(j:Int),left,hd,s,0,0⟩:av)=some (cn j:Int):=by
  unfold bv
  simp only
  rw[z3];rfl
 unfold gz
 have e00:((0:Int)==0)=true:=rfl
 simp only[e00,cond_true]
 rw[hsize]
 simp only[ae,List.length_nil]
 have e0:∀m:Int,m - ((0:Nat):Int)=m:=fun m=>by simp
 have en:IntKind.wrap .i64 (cn j:Int)=(cn j:Int):=wrap64 (by omega)
 simp only[e0,en]
 have hcd:decide ((cn j:Int)>((w++rest).length:Int))=false:=decide_eq_false (by rw[List.length_append];omega)
 rw[hcd]
 simp only[cond_false]
 rw[qN (h:=(cn j:Int)) (j:=cn j) rfl (by rw[List.length_append];omega)]
 have et:(w++rest).take (cn j)=w:=by rw[←hw];simp
 have ed:(w++rest).drop (cn j)=rest:=by rw[←hw];simp
 rw[et]
 simp only[ae]
 rw[dQ (by rw[li];simp;omega)]
 simp only[ae,List.nil_append]
 rw[so (l:=(cn j:Int)) (i:=cn j) rfl (by rw[List.length_append];omega),ed]
 simp only[ae]
 have hatw:IntKind.wrap .i64 (at_+(cn j:Int))=at_+(cn j:Int):=wrap64 (by omega)
 rw[hatw]
 have ecl:(bif (j:Int)==7 then(bQ w).bind fun y430=>(app cells [y430]).bind fun z433=>some z433 else some cells:Option (List (List Int)))=some (if j=7 then cells++[w] else cells):=by
  by_cases h7:j=7
  · have:((j:Int)==7)=true:=by simp;omega
    rw[this,cond_true,sn (by omega),if_pos h7]
    simp only[ae]
    rw[dQ (by rw[li];simp;omega)];rfl
  · have:((j:Int)==7)=false:=by simp;omega
    rw[this,cond_false,if_neg h7]
 rw[ecl]
 simp only[ae]
 rw[h]
 simp only[ae]
 have g:decide ((0:Int)≤0∧(0:Int)≤0∧(0:Int)≤(w.length:Int))=true:=decide_eq_true (by omega)
 simp only[bne_self_eq_false,cond_false,g,cond_true]
 rfl
theorem judge0 (a l:Int) (hd:aa) (s:am):an ⟨[67,72,82,78],a,0,l,hd,s,0,0⟩=some (0,⟨[67,72,82,78],a,1,l,hd,addS s [67,72,82,78],0,0⟩):=by
 unfold an
 rw[im (by simp)];rfl
theorem judge1 (a l:Int) (hd:aa) (s:am):an ⟨[1],a,1,l,hd,s,0,0⟩=some (0,⟨[1],a,2,l,hd,addS s [1],0,0⟩):=by
 unfold an
 rw[im (by simp)];rfl
theorem judge2 {v:Int} (hv:0≤v∧v≤8) (a l:Int) (hd:aa) (s:am):an ⟨[v],a,2,l,hd,s,0,0⟩=some (0,⟨[v],a,3,l,{hd with Left:=v},addS s [v],0,0⟩):=by
 unfold an
 rw[im (by simp)]
 have hi:idx [v] 0=some v:=rfl
 have hw:IntKind.wrap .i64 v=v:=wrap64 (by omega)
 have hx:decide ((({hd with Left:=v}:aa).Left)>8)=false:=decide_eq_false (by show¬v>8;omega)
 simp only[ae,Int.reduceBEq,cond_false,cond_true,hi,hw,hx]
 rfl
theorem judge3 {n:Nat} (hn:n≤256) (a l:Int) (hd:aa) (s:am):an ⟨numS (n:Int) 2,a,3,l,hd,s,0,0⟩=some (0,⟨numS (n:Int) 2,a,4,(n:Int),hd,addS s (numS (n:Int) 2),0,0⟩):=by
 unfold an
 have hl:(numS (n:Int) 2).length<2^30:=by rw[cl];omega
 rw[im hl,hQ hl,jK 2 n (by omega) (by omega) (by omega)]
 have hw:IntKind.wrap .i64 (n:Int)=n:=wrap64 (by omega)
 have hx:decide ((n:Int)>256)=false:=decide_eq_false (by omega)
 simp only[ae,Int.reduceBEq,cond_false,cond_true,hw,hx]
 rfl
theorem judge4 {n:Nat} (hn:n≤4611686018427387903) (a l:Int) (hd:aa) (s:am):an ⟨numS (n:Int) 8,a,4,l,hd,s,0,0⟩=some (0,⟨numS (n:Int) 8,a,5,l,{hd with Round:=n},addS s (numS (n:Int) 8),0,0⟩):=by
 unfold an
 have hl:(numS (n:Int) 8).length<2^30:=by rw[cl];omega
 rw[im hl,hQ hl,jK 8 n (by omega) (by omega) (by omega)]
 have hw:IntKind.wrap .i64 (n:Int)=n:=wrap64 (by omega)
 have hx:decide ((n:Int)>4611686018427387903)=false:=decide_eq_false (by omega)
 simp only[ae,Int.reduceBEq,cond_false,cond_true,hw,hx]
 rfl
theorem judge5 {n:Nat} (hn:n≤4611686018427387904) (a l:Int) (hd:aa) (s:am):an ⟨numS (n:Int) 8,a,5,l,hd,s,0,0⟩=some (0,⟨numS (n:Int) 8,a,if l=0 then 8 else 6,l,{hd with Epoch:=n},addS s (numS (n:Int) 8),0,0⟩):=by
 unfold an
 have hl:(numS (n:Int) 8).length<2^30:=by rw[cl];omega
 rw[im hl,hQ hl,jK 8 n (by omega) (by omega) (by omega)]
 have hw:IntKind.wrap .i64 (n:Int)=n:=wrap64 (by omega)
 have hx:decide ((n:Int)>4611686018427387904)=false:=decide_eq_false (by omega)
 have h6:IntKind.wrap .i64 ((5:Int)+1)=6:=rfl
 by_cases h0:l=0
 · have h1:(l==0)=true:=by simpa using h0
   simp only[ae,Int.reduceBEq,cond_false,cond_true,hw,hx,h6,Bool.true_or,h1,if_pos h0]
 · have h1:(l==0)=false:=by simpa using h0
   simp only[ae,Int.reduceBEq,cond_false,cond_true,hw,hx,h6,Bool.true_or,h1,if_neg h0]
theorem judge6 (a l:Int) (hd:aa) (s:am):an ⟨numS 320 2,a,6,l,hd,s,0,0⟩=some (0,⟨numS 320 2,a,7,l,hd,addS s (numS 320 2),0,0⟩):=by
 unfold an
 have hl:(numS 320 2).length<2^30:=by rw[cl];omega
 rw[im hl,hQ hl,show(320:Int)=((320:Nat):Int) from rfl,jK 2 320 (by omega) (by omega) (by omega)]
 have hx:(((320:Nat):Int) != ((320:Nat):Int))=false:=rfl
 simp only[ae,Int.reduceBEq,cond_false,cond_true,hx]
 rfl
theorem judge7 {c:List Int} (hc:c.length=320) (a:Int) {l:Int} (hl:1≤l∧l≤256) (hd:aa) (s:am):an ⟨c,a,7,l,hd,s,0,0⟩=some (0,⟨c,a,if l - 1=0 then 8 else 6,l - 1,hd,addS s c,0,0⟩):=by
 unfold an
 rw[im (by simp only;omega)]
 have hw:IntKind.wrap .i64 (l - 1)=l - 1:=wrap64 (by omega)
 have h8:IntKind.wrap .i64 ((7:Int)+1)=8:=rfl
 by_cases h0:l - 1=0
 · have h1:(l - 1==0)=true:=by simpa using h0
   simp only[ae,Int.reduceBEq,cond_false,cond_true,hw,h8,Bool.or_true,h1,if_pos h0]
 · have h1:(l - 1==0)=false:=by simpa using h0
   simp only[ae,Int.reduceBEq,cond_false,cond_true,hw,h8,Bool.or_true,h1,if_neg h0]
theorem judge8 (a l:Int) (hd:aa) (s:am):an ⟨numS (gP s) 4,a,8,l,hd,s,0,0⟩=some (0,⟨numS (gP s) 4,a,9,l,hd,s,0,0⟩):=by
 unfold an
 have hl:(numS (gP s) 4).length<2^30:=by rw[cl];omega
 have hr:=nn s
 obtain⟨n,hn⟩:∃n:Nat,gP s=n:=⟨(gP s).toNat,by omega⟩
 have hb:bigS (numS (gP s) 4)=gP s:=by rw[hn];exact jK 4 n (by omega) (by omega) (by omega)
 have hf:dc s=some (gP s):=rfl
 rw[hQ hl,hb,hf]
 have hw:IntKind.wrap .u64 (gP s)=gP s:=fQ (by omega)
 simp only[ae,Int.reduceBEq,cond_false,cond_true,hw,bne_self_eq_false]
theorem pa (c:List Int) (cs:List (List Int)):gQ (c::cs)=numS 320 2++(c++gQ cs):=by simp[gQ]
theorem m6:∀{cs:List (List Int)},(∀c∈cs,c.length=320)→(gQ cs).length=322*cs.length
 |[],_=>rfl
 |c::cs,h=>by
  rw[pa,List.length_append,List.length_append,cl,h c (by simp),m6 fun x hx=>h x (by simp[hx]),List.length_cons];omega
theorem pc {foot:List Int} (hf:foot.length=4) {hd:aa}:∀(cs:List (List Int)) (done:List (List Int)) (at_:Int) (s:am),(∀c∈cs,c.length=320)→done.length+cs.length≤256→0≤at_→at_≤1000*(done.length:Int)+1000→
  ∃a,0≤a∧a≤1000*256+1000∧Loop.run gz (gQ cs++foot,done,[],at_,(if(cs.length:Int)=0 then 8 else 6),(cs.length:Int),hd,s,0,0)=Loop.run gz (foot,done++cs,[],a,8,0,hd,addS s (gQ cs),0,0)
 |[],done,at_,s,_,hl,h0,h1=>⟨at_,h0,by simp at hl;omega,by simp[gQ,addS]⟩
 |c::cs,done,at_,s,hc,hl,h0,h1=>by
  have hcl:=hc c (by simp)
  have hb:=m6 (cs:=cs) fun x hx=>hc x (by simp[hx])
  have hlen:(c::cs).length=cs.length+1:=List.length_cons
  rw[hlen] at hl
  obtain⟨a,a0,a1,ha⟩:=pc hf (hd:=hd) cs (done++[c]) (at_+2+320) (addS (addS s (numS 320 2)) c) (fun x hx=>hc x (by simp[hx])) (by simp;omega) (by omega) (by simp;omega)
  refine⟨a,a0,a1,?_⟩
  have hne:¬(((c::cs).length:Nat):Int)=0:=by rw[hlen];omega
  rw[if_neg hne,pa]
  rw[List.append_assoc,List.append_assoc]
  rw[fG (w:=numS 320 2) (j:=6) (z:=6) rfl (by omega) (cl _ _) (by omega) (by simp only[List.length_append];omega) (by omega) (fun a=>judge6 a _ _ _)]
  rw[fG (w:=c) (j:=7) (z:=7) rfl (by omega) hcl (by simp[cn];omega) (by simp only[List.length_append];omega) (by simp;omega) (fun a=>judge7 hcl a (by rw[hlen];omega) _ _)]
  have e1:(((c::cs).length:Nat):Int) - 1=(cs.length:Int):=by rw[hlen];omega
  rw[e1]
  have e2:(if(7:Nat)=7 then(if(6:Nat)=7 then done++[numS 320 2] else done)++[c] else(if(6:Nat)=7 then done++[numS 320 2] else done))=done++[c]:=by simp
  rw[e2]
  have e3:at_+((cn 6:Nat):Int)+((cn 7:Nat):Int)=at_+2+320:=rfl
  rw[e3,ha,jm,jm]
  simp
theorem pe {b:aG} (hh:InvH b.Header) (hn:b.Cells.length≤256) (hc:∀c∈b.Cells,c.length=320):cw (qq b)=some (b,0,0):=by
 obtain⟨⟨rd,ep,lf⟩,cs⟩:=b
 simp only at hh hn hc
 obtain⟨⟨l0,l1⟩,⟨r0,r1⟩,⟨e0,e1⟩⟩:=hh
 simp only at l0 l1 r0 r1 e0 e1
 obtain⟨r,rfl⟩:∃r:Nat,rd=r:=⟨rd.toNat,by omega⟩
 obtain⟨e,rfl⟩:∃e:Nat,ep=e:=⟨ep.toNat,by omega⟩
 have hbl:=m6 hc
 unfold cw ek
 simp only[ae]
 unfold cU
 show(((Loop.run gz _).bind _).bind _).bind _=_
 have hl8:IntKind.wrap .u8 lf=lf:=by rw[wrap8];omega
 have hp:qq ⟨⟨(r:Int),(e:Int),lf⟩,cs⟩=[67,72,82,78]++([1]++([lf]++(numS (cs.length:Int) 2++(numS (r:Int) 8++(numS (e:Int) 8++(gQ cs++numS (gP (sumS ⟨(r:Int),(e:Int),lf⟩ cs)) 4)))))):=by
  simp[qq,np,hl8]
 have key:∃a,Loop.run gz (qq ⟨⟨(r:Int),(e:Int),lf⟩,cs⟩,[],[],0,0,0,⟨0,0,0⟩,⟨1,0⟩,0,0)=some (cs,[],a,9,0,⟨(r:Int),(e:Int),lf⟩,sumS ⟨(r:Int),(e:Int),lf⟩ cs,0,0):=by
  generalize hfo:numS (gP (sumS ⟨(r:Int),(e:Int),lf⟩ cs)) 4=foot at hp
  have hfl:foot.length=4:=by rw[←hfo,cl]
  obtain⟨a,a0,a1,ha⟩:=pc hfl (hd:=⟨(r:Int),(e:Int),lf⟩) cs [] (4+1+1+2+8+8) (addS (addS (addS (addS (addS (addS ⟨1,0⟩ [67,72,82,78]) [1]) [lf]) (numS (cs.length:Int) 2)) (numS (r:Int) 8)) (numS (e:Int) 8)) hc (by simpa using hn) (by omega) (by simp)
  have hs:addS (addS (addS (addS (addS (addS (addS ⟨1,0⟩ [67,72,82,78]) [1]) [lf]) (numS (cs.length:Int) 2)) (numS (r:Int) 8)) (numS (e:Int) 8)) (gQ cs)=sumS ⟨(r:Int),(e:Int),lf⟩ cs:=by
    simp only[sumS,np,hl8,←jm]
    simp
  rw[hs,List.nil_append] at ha
  refine⟨a+((cn 8:Nat):Int)+0,?_⟩
  rw[hp]
  have L:∀{x y:List Int},(x++y).length=x.length+y.length:=fun{x y}=>List.length_append
  rw[fG (w:=[67,72,82,78]) (j:=0) (z:=0) rfl (by omega) rfl (by omega) (by simp only[L,cl,List.length_cons,List.length_nil];omega) (by simp) (fun a=>judge0 a _ _ _)]
  rw[fG (w:=[1]) (j:=1) (z:=1) rfl (by omega) rfl (by simp[cn]) (by simp only[L,cl,List.length_cons,List.length_nil];omega) (by simp) (fun a=>judge1 a _ _ _)]
  rw[fG (w:=[lf]) (j:=2) (z:=2) rfl (by omega) rfl (by simp[cn]) (by simp only[L,cl,List.length_cons,List.length_nil];omega) (by simp) (fun a=>judge2 ⟨l0,l1⟩ a _ _ _)]
  rw[fG (w:=numS (cs.length:Int) 2) (j:=3) (z:=3) rfl (by omega) (cl _ _) (by simp[cn]) (by simp only[L,cl,List.length_cons,List.length_nil];omega) (by simp) (fun a=>judge3 hn a _ _ _)]
  rw[fG (w:=numS (r:Int) 8) (j:=4) (z:=4) rfl (by omega) (cl _ _) (by simp[cn]) (by simp only[L,cl,List.length_cons,List.length_nil];omega) (by simp) (fun a=>judge4 (by omega) a _ _ _)]
  rw[fG (w:=numS (e:Int) 8) (j:=5) (z:=5) rfl (by omega) (cl _ _) (by simp[cn]) (by simp only[L,cl,List.length_cons,List.length_nil];omega) (by simp) (fun a=>judge5 (by omega) a _ _ _)]
  refine Eq.trans ?_ ?_ (b:=Loop.run gz (gQ cs++foot,[],[],4+1+1+2+8+8,(if(cs.length:Int)=0 then 8 else 6),(cs.length:Int),⟨(r:Int),(e:Int),lf⟩,addS (addS (addS (addS (addS (addS ⟨1,0⟩ [67,72,82,78]) [1]) [lf]) (numS (cs.length:Int) 2)) (numS (r:Int) 8)) (numS (e:Int) 8),0,0))
  · simp[cn]
  rw[ha]
  have e8:foot=numS (gP (sumS ⟨(r:Int),(e:Int),lf⟩ cs)) 4++[]:=by rw[hfo];simp
  rw[e8,fG (w:=numS (gP (sumS ⟨(r:Int),(e:Int),lf⟩ cs)) 4) (j:=8) (z:=8) rfl (by omega) (cl _ _) (by omega) (by simp) (by omega) (fun a=>judge8 a _ _ _)]
  apply Loop.run_done
  unfold gz
  have h1:bv (⟨[],a+((cn 8:Nat):Int),9,0,⟨(r:Int),(e:Int),lf⟩,sumS ⟨(r:Int),(e:Int),lf⟩ cs,0,0⟩:av)=some 1:=rfl
  have e00:((0:Int)==0)=true:=rfl
  simp only[e00,cond_true]
  rw[h1]
  have hd:decide ((IntKind.wrap .i64 ((1:Int) - (([]:List Int).length:Int)))>(([]:List Int).length:Int))=true:=rfl
  simp only[ae,hd,cond_true]
  rw[dQ (by rw[li];simp)]
  have hz8:cn 8=4:=rfl
  simp only[ae,List.append_nil,List.length_nil]
  rw[wrap64 (by rw[hz8];simp;omega)]
  simp
 obtain⟨a,ha⟩:=key
 rw[ha]
 rfl
end Go.Proofs.YtobbmodjdkcdcaaGreatDoor
