import Derived.Test.YtiegkabcgokhkaaGreatRD
namespace Go.Proofs.YtiegkabcgokhkaaGreat
open Go.Pk
set_option maxRecDepth 100000
set_option linter.unusedSimpArgs false
set_option linter.unusedVariables false
def dByte (bs:List Int) (p:Int):Int×Int×Int:=if shortP bs.length p 1=true then(0,0,2)else(bs.getD p.toNat 0,p+1,0)
def dNum (bs:List Int) (p:Int):Int×Int×Int:=
 if shortP bs.length p 8=true then(0,0,2)else if numV ((bs.drop p.toNat).take 8)<4611686018427387904 then(numV ((bs.drop p.toNat).take 8),p+8,0)else(0,0,4)
def dText (bs:List Int) (p most:Int):ByteArray×Int×Int:=
 if shortP bs.length p 1=true then(.empty,0,2)else if¬bs.getD p.toNat 0≤most then(.empty,0,3)else
 if shortP bs.length (p+1) (bs.getD p.toNat 0)=true then(.empty,0,2)else(strOf ((bs.drop (p.toNat+1)).take (bs.getD p.toNat 0).toNat),p+1+bs.getD p.toNat 0,0)
theorem zbA {n:Nat} {p k:Int} (h:shortP n p k=false):0≤p∧p≤n∧k≤n - p:=by
 unfold shortP at h
 simp at h
 omega
structure BsOk (bs:List Int):Prop where
 l:bs.length<2^60
 b:∀x∈bs,byteI x
theorem zdM (bs:List Int) (p:Int) (h:BsOk bs) (hp:i64 p):CallOK Tryz.prog 87 [.f (asl bs.length (bytesE bs)), .f (ai p)] (fun r o=>r=[ri (dByte bs p).1,ri (dByte bs p).2.1,ri (dByte bs p).2.2]∧o=[]):=by
 have hl:=h.l
 cases hs:shortP bs.length p 1
 ·obtain⟨h1,h2,h3⟩:=zbA hs
  obtain⟨q,rfl⟩:=Int.eq_ofNat_of_zero_le h1
  have hq:q<bs.length:=by omega
  have hb:=zci hq h.b
  unfold byteI at hb
  rw[dByte,if_neg (by rw[hs];simp)]
  have:=znh bs.length (bytesE bs) q (bs.getD q 0) _ zaA (by omega) hq (zb3 hq) hb
  simpa using this
 ·rw[dByte,if_pos hs]
  exact zlI bs.length (bytesE bs) p zaA (by omega) hp hs
theorem zhG (bs:List Int) (p:Int) (h:BsOk bs) (hp:i64 p):CallOK Tryz.prog 88 [.f (asl bs.length (bytesE bs)), .f (ai p)] (fun r o=>r=[ri (dNum bs p).1,ri (dNum bs p).2.1,ri (dNum bs p).2.2]∧o=[]):=by
 have hl:=h.l
 cases hs:shortP bs.length p 8
 ·obtain⟨h1,h2,h3⟩:=zbA hs
  obtain⟨q,rfl⟩:=Int.eq_ofNat_of_zero_le h1
  rw[dNum,if_neg (by rw[hs];simp)]
  have:=znj bs.length (bytesE bs) q ((bs.drop q).take 8) zaA (by omega) (by omega) (by rw[←List.map_drop,←List.map_take]) (by rw[List.length_take,List.length_drop];omega) (fun x hx=>h.b x (List.mem_of_mem_drop (List.mem_of_mem_take hx)))
  simp only[Int.toNat_natCast]
  split
  ·rename_i hv
   rw[if_pos hv]at this
   exact this
  ·rename_i hv
   rw[if_neg hv]at this
   exact this
 ·rw[dNum,if_pos hs]
  exact znk bs.length (bytesE bs) p zaA (by omega) hp hs
theorem zlH (bs:List Int) (p most:Int) (h:BsOk bs) (hp:i64 p):CallOK Tryz.prog 130 [.f (asl bs.length (bytesE bs)), .f (ai p), .f (ai most)] (fun r o=>r=[.one (.d (sD (dText bs p most).1)),ri (dText bs p most).2.1,ri (dText bs p most).2.2]∧o=[]):=by
 have hl:=h.l
 cases hs:shortP bs.length p 1
 ·obtain⟨h1,h2,h3⟩:=zbA hs
  obtain⟨q,rfl⟩:=Int.eq_ofNat_of_zero_le h1
  have hq:q<bs.length:=by omega
  have hb:=zci hq h.b
  unfold byteI at hb
  obtain⟨x,hx⟩:=Int.eq_ofNat_of_zero_le hb.1
  have hat:=zb3 hq
  rw[hx]at hat
  rw[dText,if_neg (by rw[hs];simp)]
  simp only[Int.toNat_natCast,hx]
  by_cases hm:(x:Int)≤most
  ·rw[if_neg (by simpa using hm)]
   cases hs2:shortP bs.length ((q:Int)+1) (x:Int)
   ·obtain⟨h4,h5,h6⟩:=zbA hs2
    rw[if_neg (by simp)]
    have:=znl bs.length (bytesE bs) q x most ((bs.drop (q+1)).take x) _ zaA (by omega) (by omega) hat (by omega) hm (by rw[←List.map_drop,←List.map_take]) (by rw[List.length_take,List.length_drop];omega)
    simpa using this
   ·rw[if_pos rfl]
    exact zi2 bs.length (bytesE bs) q x most _ zaA (by omega) (by omega) hat (by omega) hm (by simpa using hs2)
  ·rw[if_pos (by simpa using hm)]
   exact zkF bs.length (bytesE bs) q x most _ zaA (by omega) (by omega) hat (by omega) hm
 ·rw[dText,if_pos hs]
  exact zlJ bs.length (bytesE bs) p most zaA (by omega) hp hs
theorem zb6 {bs:List Int} {p:Int}:0≤(dByte bs p).2.1∧(dByte bs p).2.1≤bs.length:=by
 unfold dByte
 cases hs:shortP bs.length p 1
 ·obtain⟨h1,h2,h3⟩:=zbA hs
  rw[if_neg (by simp)];simp only;omega
 ·rw[if_pos rfl];simp only;omega
theorem zdN {bs:List Int} {p:Int}:0≤(dNum bs p).2.1∧(dNum bs p).2.1≤bs.length:=by
 unfold dNum
 cases hs:shortP bs.length p 8
 ·obtain⟨h1,h2,h3⟩:=zbA hs
  rw[if_neg (by simp)]
  split
  ·simp only;omega
  ·simp only;omega
 ·rw[if_pos rfl];simp only;omega
theorem zi1 {bs:List Int} {p most:Int} (h:BsOk bs):0≤(dText bs p most).2.1∧(dText bs p most).2.1≤bs.length:=by
 unfold dText
 cases hs:shortP bs.length p 1
 ·obtain⟨h1,h2,h3⟩:=zbA hs
  rw[if_neg (by simp)]
  have hb:=zci (i:=p.toNat) (by omega) h.b
  unfold byteI at hb
  split
  ·simp only;omega
  ·cases hs2:shortP bs.length (p+1) (bs.getD p.toNat 0)
   ·obtain⟨h4,h5,h6⟩:=zbA hs2
    rw[if_neg (by simp)];simp only;omega
   ·rw[if_pos rfl];simp only;omega
 ·rw[if_pos rfl];simp only;omega
end Go.Proofs.YtiegkabcgokhkaaGreat
