import Derived.Test.YtlblpiapeieofaaProg
import Derived.KernelRfl
namespace Go.Proofs.Ytlblpiapeieofaa
theorem sz1 : (Try.prog.info? 1).map (·.size) = some 1 := by kernel_rfl
theorem inf1 : (Try.prog.info? 1).map (fun i => (i.zero, i.size, i.bytes)) = some (some (.nilFunc), 1, 8) := by kernel_rfl
theorem zr1 : ((Try.prog.info? 1).bind (·.zero)).isSome = true := by kernel_rfl
theorem sz2 : (Try.prog.info? 2).map (·.size) = some 1 := by kernel_rfl
theorem inf2 : (Try.prog.info? 2).map (fun i => (i.zero, i.size, i.bytes)) = some (some (.int .i64 0), 1, 8) := by kernel_rfl
theorem zr2 : ((Try.prog.info? 2).bind (·.zero)).isSome = true := by kernel_rfl
theorem sz3 : (Try.prog.info? 3).map (·.size) = some 1 := by kernel_rfl
theorem inf3 : (Try.prog.info? 3).map (fun i => (i.zero, i.size, i.bytes)) = some (some (.int .i64 0), 1, 8) := by kernel_rfl
theorem zr3 : ((Try.prog.info? 3).bind (·.zero)).isSome = true := by kernel_rfl
theorem sz4 : (Try.prog.info? 4).map (·.size) = some 1 := by kernel_rfl
theorem inf4 : (Try.prog.info? 4).map (fun i => (i.zero, i.size, i.bytes)) = some (some (.bool false), 1, 1) := by kernel_rfl
theorem zr4 : ((Try.prog.info? 4).bind (·.zero)).isSome = true := by kernel_rfl
theorem sz5 : (Try.prog.info? 5).map (·.size) = some 1 := by kernel_rfl
theorem inf5 : (Try.prog.info? 5).map (fun i => (i.zero, i.size, i.bytes)) = some (some (.int .u8 0), 1, 1) := by kernel_rfl
theorem zr5 : ((Try.prog.info? 5).bind (·.zero)).isSome = true := by kernel_rfl
theorem sz6 : (Try.prog.info? 6).map (·.size) = some 1 := by kernel_rfl
theorem inf6 : (Try.prog.info? 6).map (fun i => (i.zero, i.size, i.bytes)) = some (some (.int .u8 0), 1, 1) := by kernel_rfl
theorem zr6 : ((Try.prog.info? 6).bind (·.zero)).isSome = true := by kernel_rfl
theorem sz7 : (Try.prog.info? 7).map (·.size) = some 4 := by kernel_rfl
theorem sz8 : (Try.prog.info? 8).map (·.size) = some 4 := by kernel_rfl
theorem sz9 : (Try.prog.info? 9).map (·.size) = some 1 := by kernel_rfl
theorem inf9 : (Try.prog.info? 9).map (fun i => (i.zero, i.size, i.bytes)) = some (some (.string ByteArray.empty), 1, 16) := by kernel_rfl
theorem zr9 : ((Try.prog.info? 9).bind (·.zero)).isSome = true := by kernel_rfl
theorem sz10 : (Try.prog.info? 10).map (·.size) = some 1 := by kernel_rfl
theorem inf10 : (Try.prog.info? 10).map (fun i => (i.zero, i.size, i.bytes)) = some (some (.string ByteArray.empty), 1, 16) := by kernel_rfl
theorem zr10 : ((Try.prog.info? 10).bind (·.zero)).isSome = true := by kernel_rfl
theorem sz11 : (Try.prog.info? 11).map (·.size) = some 1 := by kernel_rfl
theorem inf11 : (Try.prog.info? 11).map (fun i => (i.zero, i.size, i.bytes)) = some (some (.string ByteArray.empty), 1, 16) := by kernel_rfl
theorem zr11 : ((Try.prog.info? 11).bind (·.zero)).isSome = true := by kernel_rfl
theorem sz12 : (Try.prog.info? 12).map (·.size) = some 1 := by kernel_rfl
theorem inf12 : (Try.prog.info? 12).map (fun i => (i.zero, i.size, i.bytes)) = some (some (.int .u64 0), 1, 8) := by kernel_rfl
theorem zr12 : ((Try.prog.info? 12).bind (·.zero)).isSome = true := by kernel_rfl
theorem sz13 : (Try.prog.info? 13).map (·.size) = some 2 := by kernel_rfl
theorem sz14 : (Try.prog.info? 14).map (·.size) = some 2 := by kernel_rfl
theorem sz15 : (Try.prog.info? 15).map (·.size) = some 1 := by kernel_rfl
theorem inf15 : (Try.prog.info? 15).map (fun i => (i.zero, i.size, i.bytes)) = some (some (.pointer none), 1, 8) := by kernel_rfl
theorem zr15 : ((Try.prog.info? 15).bind (·.zero)).isSome = true := by kernel_rfl
theorem sz16 : (Try.prog.info? 16).map (·.size) = some 1 := by kernel_rfl
theorem inf16 : (Try.prog.info? 16).map (fun i => (i.zero, i.size, i.bytes)) = some (some (.pointer none), 1, 8) := by kernel_rfl
theorem zr16 : ((Try.prog.info? 16).bind (·.zero)).isSome = true := by kernel_rfl
theorem sz17 : (Try.prog.info? 17).map (·.size) = some 1 := by kernel_rfl
theorem inf17 : (Try.prog.info? 17).map (fun i => (i.zero, i.size, i.bytes)) = some (some (.pointer none), 1, 8) := by kernel_rfl
theorem zr17 : ((Try.prog.info? 17).bind (·.zero)).isSome = true := by kernel_rfl
theorem sz18 : (Try.prog.info? 18).map (·.size) = some 1 := by kernel_rfl
theorem sz19 : (Try.prog.info? 19).map (·.size) = some 1 := by kernel_rfl
theorem sz21 : (Try.prog.info? 21).map (·.size) = some 1 := by kernel_rfl
theorem inf21 : (Try.prog.info? 21).map (fun i => (i.zero, i.size, i.bytes)) = some (some (.int .i32 0), 1, 4) := by kernel_rfl
theorem zr21 : ((Try.prog.info? 21).bind (·.zero)).isSome = true := by kernel_rfl
theorem sz22 : (Try.prog.info? 22).map (·.size) = some 1 := by kernel_rfl
theorem inf22 : (Try.prog.info? 22).map (fun i => (i.zero, i.size, i.bytes)) = some (some (.slice none 0 0), 1, 24) := by kernel_rfl
theorem zr22 : ((Try.prog.info? 22).bind (·.zero)).isSome = true := by kernel_rfl
theorem sz23 : (Try.prog.info? 23).map (·.size) = some 1 := by kernel_rfl
theorem inf23 : (Try.prog.info? 23).map (fun i => (i.zero, i.size, i.bytes)) = some (some (.slice none 0 0), 1, 24) := by kernel_rfl
theorem zr23 : ((Try.prog.info? 23).bind (·.zero)).isSome = true := by kernel_rfl
theorem sz24 : (Try.prog.info? 24).map (·.size) = some 1 := by kernel_rfl
theorem inf24 : (Try.prog.info? 24).map (fun i => (i.zero, i.size, i.bytes)) = some (some (.slice none 0 0), 1, 24) := by kernel_rfl
theorem zr24 : ((Try.prog.info? 24).bind (·.zero)).isSome = true := by kernel_rfl
theorem sz25 : (Try.prog.info? 25).map (·.size) = some 1 := by kernel_rfl
theorem inf25 : (Try.prog.info? 25).map (fun i => (i.zero, i.size, i.bytes)) = some (some (.nilFunc), 1, 8) := by kernel_rfl
theorem zr25 : ((Try.prog.info? 25).bind (·.zero)).isSome = true := by kernel_rfl
theorem sz26 : (Try.prog.info? 26).map (·.size) = some 1 := by kernel_rfl
theorem inf26 : (Try.prog.info? 26).map (fun i => (i.zero, i.size, i.bytes)) = some (some (.nilFunc), 1, 8) := by kernel_rfl
theorem zr26 : ((Try.prog.info? 26).bind (·.zero)).isSome = true := by kernel_rfl
theorem sz27 : (Try.prog.info? 27).map (·.size) = some 1 := by kernel_rfl
theorem inf27 : (Try.prog.info? 27).map (fun i => (i.zero, i.size, i.bytes)) = some (some (.pointer none), 1, 8) := by kernel_rfl
theorem zr27 : ((Try.prog.info? 27).bind (·.zero)).isSome = true := by kernel_rfl
theorem sz28 : (Try.prog.info? 28).map (·.size) = some 1 := by kernel_rfl
theorem inf28 : (Try.prog.info? 28).map (fun i => (i.zero, i.size, i.bytes)) = some (some (.nilFunc), 1, 8) := by kernel_rfl
theorem zr28 : ((Try.prog.info? 28).bind (·.zero)).isSome = true := by kernel_rfl
theorem sz29 : (Try.prog.info? 29).map (·.size) = some 1 := by kernel_rfl
theorem inf29 : (Try.prog.info? 29).map (fun i => (i.zero, i.size, i.bytes)) = some (some (.nilFunc), 1, 8) := by kernel_rfl
theorem zr29 : ((Try.prog.info? 29).bind (·.zero)).isSome = true := by kernel_rfl
theorem sz30 : (Try.prog.info? 30).map (·.size) = some 1 := by kernel_rfl
theorem inf30 : (Try.prog.info? 30).map (fun i => (i.zero, i.size, i.bytes)) = some (some (.int .i64 0), 1, 8) := by kernel_rfl
theorem zr30 : ((Try.prog.info? 30).bind (·.zero)).isSome = true := by kernel_rfl
theorem sz31 : (Try.prog.info? 31).map (·.size) = some 1 := by kernel_rfl
theorem inf31 : (Try.prog.info? 31).map (fun i => (i.zero, i.size, i.bytes)) = some (some (.nilFunc), 1, 8) := by kernel_rfl
theorem zr31 : ((Try.prog.info? 31).bind (·.zero)).isSome = true := by kernel_rfl
theorem sz32 : (Try.prog.info? 32).map (·.size) = some 4 := by kernel_rfl
theorem sz33 : (Try.prog.info? 33).map (·.size) = some 4 := by kernel_rfl
theorem sz35 : (Try.prog.info? 35).map (·.size) = some 1 := by kernel_rfl
theorem inf35 : (Try.prog.info? 35).map (fun i => (i.zero, i.size, i.bytes)) = some (some (.nilFunc), 1, 8) := by kernel_rfl
theorem zr35 : ((Try.prog.info? 35).bind (·.zero)).isSome = true := by kernel_rfl
theorem sz36 : (Try.prog.info? 36).map (·.size) = some 1 := by kernel_rfl
theorem inf36 : (Try.prog.info? 36).map (fun i => (i.zero, i.size, i.bytes)) = some (some (.slice none 0 0), 1, 24) := by kernel_rfl
theorem zr36 : ((Try.prog.info? 36).bind (·.zero)).isSome = true := by kernel_rfl
theorem sz37 : (Try.prog.info? 37).map (·.size) = some 1 := by kernel_rfl
theorem inf37 : (Try.prog.info? 37).map (fun i => (i.zero, i.size, i.bytes)) = some (some (.nilFunc), 1, 8) := by kernel_rfl
theorem zr37 : ((Try.prog.info? 37).bind (·.zero)).isSome = true := by kernel_rfl
theorem sz38 : (Try.prog.info? 38).map (·.size) = some 1 := by kernel_rfl
theorem inf38 : (Try.prog.info? 38).map (fun i => (i.zero, i.size, i.bytes)) = some (some (.nilFunc), 1, 8) := by kernel_rfl
theorem zr38 : ((Try.prog.info? 38).bind (·.zero)).isSome = true := by kernel_rfl
theorem sz39 : (Try.prog.info? 39).map (·.size) = some 1 := by kernel_rfl
theorem inf39 : (Try.prog.info? 39).map (fun i => (i.zero, i.size, i.bytes)) = some (some (.nilFunc), 1, 8) := by kernel_rfl
theorem zr39 : ((Try.prog.info? 39).bind (·.zero)).isSome = true := by kernel_rfl
theorem sz40 : (Try.prog.info? 40).map (·.size) = some 1 := by kernel_rfl
theorem inf40 : (Try.prog.info? 40).map (fun i => (i.zero, i.size, i.bytes)) = some (some (.nilFunc), 1, 8) := by kernel_rfl
theorem zr40 : ((Try.prog.info? 40).bind (·.zero)).isSome = true := by kernel_rfl
theorem sz41 : (Try.prog.info? 41).map (·.size) = some 1 := by kernel_rfl
theorem inf41 : (Try.prog.info? 41).map (fun i => (i.zero, i.size, i.bytes)) = some (some (.nilFunc), 1, 8) := by kernel_rfl
theorem zr41 : ((Try.prog.info? 41).bind (·.zero)).isSome = true := by kernel_rfl
theorem sz42 : (Try.prog.info? 42).map (·.size) = some 1 := by kernel_rfl
theorem inf42 : (Try.prog.info? 42).map (fun i => (i.zero, i.size, i.bytes)) = some (some (.nilFunc), 1, 8) := by kernel_rfl
theorem zr42 : ((Try.prog.info? 42).bind (·.zero)).isSome = true := by kernel_rfl
theorem sz43 : (Try.prog.info? 43).map (·.size) = some 1 := by kernel_rfl
theorem inf43 : (Try.prog.info? 43).map (fun i => (i.zero, i.size, i.bytes)) = some (some (.slice none 0 0), 1, 24) := by kernel_rfl
theorem zr43 : ((Try.prog.info? 43).bind (·.zero)).isSome = true := by kernel_rfl
theorem sz44 : (Try.prog.info? 44).map (·.size) = some 2 := by kernel_rfl
theorem sz45 : (Try.prog.info? 45).map (·.size) = some 2 := by kernel_rfl
theorem sz47 : (Try.prog.info? 47).map (·.size) = some 1 := by kernel_rfl
theorem inf47 : (Try.prog.info? 47).map (fun i => (i.zero, i.size, i.bytes)) = some (some (.nilFunc), 1, 8) := by kernel_rfl
theorem zr47 : ((Try.prog.info? 47).bind (·.zero)).isSome = true := by kernel_rfl
theorem sz49 : (Try.prog.info? 49).map (·.size) = some 1 := by kernel_rfl
theorem inf49 : (Try.prog.info? 49).map (fun i => (i.zero, i.size, i.bytes)) = some (some (.nilFunc), 1, 8) := by kernel_rfl
theorem zr49 : ((Try.prog.info? 49).bind (·.zero)).isSome = true := by kernel_rfl
theorem sz51 : (Try.prog.info? 51).map (·.size) = some 1 := by kernel_rfl
theorem inf51 : (Try.prog.info? 51).map (fun i => (i.zero, i.size, i.bytes)) = some (some (.nilFunc), 1, 8) := by kernel_rfl
theorem zr51 : ((Try.prog.info? 51).bind (·.zero)).isSome = true := by kernel_rfl
theorem sz52 : (Try.prog.info? 52).map (·.size) = some 1 := by kernel_rfl
theorem inf52 : (Try.prog.info? 52).map (fun i => (i.zero, i.size, i.bytes)) = some (some (.nilFunc), 1, 8) := by kernel_rfl
theorem zr52 : ((Try.prog.info? 52).bind (·.zero)).isSome = true := by kernel_rfl
theorem sz53 : (Try.prog.info? 53).map (·.size) = some 1 := by kernel_rfl
theorem inf53 : (Try.prog.info? 53).map (fun i => (i.zero, i.size, i.bytes)) = some (some (.nilFunc), 1, 8) := by kernel_rfl
theorem zr53 : ((Try.prog.info? 53).bind (·.zero)).isSome = true := by kernel_rfl
theorem sz54 : (Try.prog.info? 54).map (·.size) = some 1 := by kernel_rfl
theorem inf54 : (Try.prog.info? 54).map (fun i => (i.zero, i.size, i.bytes)) = some (some (.nilFunc), 1, 8) := by kernel_rfl
theorem zr54 : ((Try.prog.info? 54).bind (·.zero)).isSome = true := by kernel_rfl
theorem sz55 : (Try.prog.info? 55).map (·.size) = some 1 := by kernel_rfl
theorem inf55 : (Try.prog.info? 55).map (fun i => (i.zero, i.size, i.bytes)) = some (some (.nilFunc), 1, 8) := by kernel_rfl
theorem zr55 : ((Try.prog.info? 55).bind (·.zero)).isSome = true := by kernel_rfl
theorem sz56 : (Try.prog.info? 56).map (·.size) = some 1 := by kernel_rfl
theorem inf56 : (Try.prog.info? 56).map (fun i => (i.zero, i.size, i.bytes)) = some (some (.nilFunc), 1, 8) := by kernel_rfl
theorem zr56 : ((Try.prog.info? 56).bind (·.zero)).isSome = true := by kernel_rfl
theorem sz57 : (Try.prog.info? 57).map (·.size) = some 1 := by kernel_rfl
theorem inf57 : (Try.prog.info? 57).map (fun i => (i.zero, i.size, i.bytes)) = some (some (.nilFunc), 1, 8) := by kernel_rfl
theorem zr57 : ((Try.prog.info? 57).bind (·.zero)).isSome = true := by kernel_rfl
theorem sz58 : (Try.prog.info? 58).map (·.size) = some 1 := by kernel_rfl
theorem inf58 : (Try.prog.info? 58).map (fun i => (i.zero, i.size, i.bytes)) = some (some (.nilFunc), 1, 8) := by kernel_rfl
theorem zr58 : ((Try.prog.info? 58).bind (·.zero)).isSome = true := by kernel_rfl
theorem sz59 : (Try.prog.info? 59).map (·.size) = some 1 := by kernel_rfl
theorem inf59 : (Try.prog.info? 59).map (fun i => (i.zero, i.size, i.bytes)) = some (some (.nilFunc), 1, 8) := by kernel_rfl
theorem zr59 : ((Try.prog.info? 59).bind (·.zero)).isSome = true := by kernel_rfl
theorem sz60 : (Try.prog.info? 60).map (·.size) = some 1 := by kernel_rfl
theorem inf60 : (Try.prog.info? 60).map (fun i => (i.zero, i.size, i.bytes)) = some (some (.nilFunc), 1, 8) := by kernel_rfl
theorem zr60 : ((Try.prog.info? 60).bind (·.zero)).isSome = true := by kernel_rfl
theorem sz61 : (Try.prog.info? 61).map (·.size) = some 1 := by kernel_rfl
theorem inf61 : (Try.prog.info? 61).map (fun i => (i.zero, i.size, i.bytes)) = some (some (.nilFunc), 1, 8) := by kernel_rfl
theorem zr61 : ((Try.prog.info? 61).bind (·.zero)).isSome = true := by kernel_rfl
theorem sz62 : (Try.prog.info? 62).map (·.size) = some 1 := by kernel_rfl
theorem inf62 : (Try.prog.info? 62).map (fun i => (i.zero, i.size, i.bytes)) = some (some (.map none), 1, 8) := by kernel_rfl
theorem zr62 : ((Try.prog.info? 62).bind (·.zero)).isSome = true := by kernel_rfl
theorem sz63 : (Try.prog.info? 63).map (·.size) = some 2 := by kernel_rfl
theorem sz64 : (Try.prog.info? 64).map (·.size) = some 2 := by kernel_rfl
theorem sz65 : (Try.prog.info? 65).map (·.size) = some 1 := by kernel_rfl
theorem inf65 : (Try.prog.info? 65).map (fun i => (i.zero, i.size, i.bytes)) = some (some (.nilFunc), 1, 8) := by kernel_rfl
theorem zr65 : ((Try.prog.info? 65).bind (·.zero)).isSome = true := by kernel_rfl
theorem sz66 : (Try.prog.info? 66).map (·.size) = some 1 := by kernel_rfl
theorem inf66 : (Try.prog.info? 66).map (fun i => (i.zero, i.size, i.bytes)) = some (some (.pointer none), 1, 8) := by kernel_rfl
theorem zr66 : ((Try.prog.info? 66).bind (·.zero)).isSome = true := by kernel_rfl
theorem sz68 : (Try.prog.info? 68).map (·.size) = some 1 := by kernel_rfl
theorem inf68 : (Try.prog.info? 68).map (fun i => (i.zero, i.size, i.bytes)) = some (some (.nilFunc), 1, 8) := by kernel_rfl
theorem zr68 : ((Try.prog.info? 68).bind (·.zero)).isSome = true := by kernel_rfl
theorem sz69 : (Try.prog.info? 69).map (·.size) = some 1 := by kernel_rfl
theorem inf69 : (Try.prog.info? 69).map (fun i => (i.zero, i.size, i.bytes)) = some (some (.slice none 0 0), 1, 24) := by kernel_rfl
theorem zr69 : ((Try.prog.info? 69).bind (·.zero)).isSome = true := by kernel_rfl
theorem sz70 : (Try.prog.info? 70).map (·.size) = some 2 := by kernel_rfl
theorem sz71 : (Try.prog.info? 71).map (·.size) = some 2 := by kernel_rfl
theorem sz72 : (Try.prog.info? 72).map (·.size) = some 1 := by kernel_rfl
theorem inf72 : (Try.prog.info? 72).map (fun i => (i.zero, i.size, i.bytes)) = some (some (.nilFunc), 1, 8) := by kernel_rfl
theorem zr72 : ((Try.prog.info? 72).bind (·.zero)).isSome = true := by kernel_rfl
theorem sz73 : (Try.prog.info? 73).map (·.size) = some 1 := by kernel_rfl
theorem inf73 : (Try.prog.info? 73).map (fun i => (i.zero, i.size, i.bytes)) = some (some (.nilFunc), 1, 8) := by kernel_rfl
theorem zr73 : ((Try.prog.info? 73).bind (·.zero)).isSome = true := by kernel_rfl
theorem sz74 : (Try.prog.info? 74).map (·.size) = some 1 := by kernel_rfl
theorem inf74 : (Try.prog.info? 74).map (fun i => (i.zero, i.size, i.bytes)) = some (some (.nilFunc), 1, 8) := by kernel_rfl
theorem zr74 : ((Try.prog.info? 74).bind (·.zero)).isSome = true := by kernel_rfl
theorem sz75 : (Try.prog.info? 75).map (·.size) = some 1 := by kernel_rfl
theorem inf75 : (Try.prog.info? 75).map (fun i => (i.zero, i.size, i.bytes)) = some (some (.nilFunc), 1, 8) := by kernel_rfl
theorem zr75 : ((Try.prog.info? 75).bind (·.zero)).isSome = true := by kernel_rfl
theorem sz76 : (Try.prog.info? 76).map (·.size) = some 1 := by kernel_rfl
theorem inf76 : (Try.prog.info? 76).map (fun i => (i.zero, i.size, i.bytes)) = some (some (.nilFunc), 1, 8) := by kernel_rfl
theorem zr76 : ((Try.prog.info? 76).bind (·.zero)).isSome = true := by kernel_rfl
theorem sz77 : (Try.prog.info? 77).map (·.size) = some 3 := by kernel_rfl
theorem sz78 : (Try.prog.info? 78).map (·.size) = some 3 := by kernel_rfl
theorem sz80 : (Try.prog.info? 80).map (·.size) = some 1 := by kernel_rfl
theorem inf80 : (Try.prog.info? 80).map (fun i => (i.zero, i.size, i.bytes)) = some (some (.nilFunc), 1, 8) := by kernel_rfl
theorem zr80 : ((Try.prog.info? 80).bind (·.zero)).isSome = true := by kernel_rfl
theorem sz81 : (Try.prog.info? 81).map (·.size) = some 1 := by kernel_rfl
theorem inf81 : (Try.prog.info? 81).map (fun i => (i.zero, i.size, i.bytes)) = some (some (.nilFunc), 1, 8) := by kernel_rfl
theorem zr81 : ((Try.prog.info? 81).bind (·.zero)).isSome = true := by kernel_rfl
theorem sz82 : (Try.prog.info? 82).map (·.size) = some 1 := by kernel_rfl
theorem inf82 : (Try.prog.info? 82).map (fun i => (i.zero, i.size, i.bytes)) = some (some (.nilFunc), 1, 8) := by kernel_rfl
theorem zr82 : ((Try.prog.info? 82).bind (·.zero)).isSome = true := by kernel_rfl
theorem sz83 : (Try.prog.info? 83).map (·.size) = some 1 := by kernel_rfl
theorem inf83 : (Try.prog.info? 83).map (fun i => (i.zero, i.size, i.bytes)) = some (some (.nilFunc), 1, 8) := by kernel_rfl
theorem zr83 : ((Try.prog.info? 83).bind (·.zero)).isSome = true := by kernel_rfl
theorem sz84 : (Try.prog.info? 84).map (·.size) = some 1 := by kernel_rfl
theorem inf84 : (Try.prog.info? 84).map (fun i => (i.zero, i.size, i.bytes)) = some (some (.nilFunc), 1, 8) := by kernel_rfl
theorem zr84 : ((Try.prog.info? 84).bind (·.zero)).isSome = true := by kernel_rfl
theorem sz85 : (Try.prog.info? 85).map (·.size) = some 1 := by kernel_rfl
theorem inf85 : (Try.prog.info? 85).map (fun i => (i.zero, i.size, i.bytes)) = some (some (.nilFunc), 1, 8) := by kernel_rfl
theorem zr85 : ((Try.prog.info? 85).bind (·.zero)).isSome = true := by kernel_rfl
theorem sz86 : (Try.prog.info? 86).map (·.size) = some 1 := by kernel_rfl
theorem inf86 : (Try.prog.info? 86).map (fun i => (i.zero, i.size, i.bytes)) = some (some (.nilFunc), 1, 8) := by kernel_rfl
theorem zr86 : ((Try.prog.info? 86).bind (·.zero)).isSome = true := by kernel_rfl
theorem sz87 : (Try.prog.info? 87).map (·.size) = some 1 := by kernel_rfl
theorem inf87 : (Try.prog.info? 87).map (fun i => (i.zero, i.size, i.bytes)) = some (some (.nilFunc), 1, 8) := by kernel_rfl
theorem zr87 : ((Try.prog.info? 87).bind (·.zero)).isSome = true := by kernel_rfl
theorem sz88 : (Try.prog.info? 88).map (·.size) = some 1 := by kernel_rfl
theorem inf88 : (Try.prog.info? 88).map (fun i => (i.zero, i.size, i.bytes)) = some (some (.nilFunc), 1, 8) := by kernel_rfl
theorem zr88 : ((Try.prog.info? 88).bind (·.zero)).isSome = true := by kernel_rfl
theorem sz89 : (Try.prog.info? 89).map (·.size) = some 1 := by kernel_rfl
theorem inf89 : (Try.prog.info? 89).map (fun i => (i.zero, i.size, i.bytes)) = some (some (.nilFunc), 1, 8) := by kernel_rfl
theorem zr89 : ((Try.prog.info? 89).bind (·.zero)).isSome = true := by kernel_rfl
theorem sz90 : (Try.prog.info? 90).map (·.size) = some 1 := by kernel_rfl
theorem inf90 : (Try.prog.info? 90).map (fun i => (i.zero, i.size, i.bytes)) = some (some (.nilFunc), 1, 8) := by kernel_rfl
theorem zr90 : ((Try.prog.info? 90).bind (·.zero)).isSome = true := by kernel_rfl
theorem sz91 : (Try.prog.info? 91).map (·.size) = some 1 := by kernel_rfl
theorem inf91 : (Try.prog.info? 91).map (fun i => (i.zero, i.size, i.bytes)) = some (some (.int .u64 0), 1, 8) := by kernel_rfl
theorem zr91 : ((Try.prog.info? 91).bind (·.zero)).isSome = true := by kernel_rfl
theorem sz92 : (Try.prog.info? 92).map (·.size) = some 1 := by kernel_rfl
theorem inf92 : (Try.prog.info? 92).map (fun i => (i.zero, i.size, i.bytes)) = some (some (.nilFunc), 1, 8) := by kernel_rfl
theorem zr92 : ((Try.prog.info? 92).bind (·.zero)).isSome = true := by kernel_rfl
theorem sz93 : (Try.prog.info? 93).map (·.size) = some 1 := by kernel_rfl
theorem inf93 : (Try.prog.info? 93).map (fun i => (i.zero, i.size, i.bytes)) = some (some (.int .i64 0), 1, 8) := by kernel_rfl
theorem zr93 : ((Try.prog.info? 93).bind (·.zero)).isSome = true := by kernel_rfl
theorem sz95 : (Try.prog.info? 95).map (·.size) = some 1 := by kernel_rfl
theorem inf95 : (Try.prog.info? 95).map (fun i => (i.zero, i.size, i.bytes)) = some (some (.nilFunc), 1, 8) := by kernel_rfl
theorem zr95 : ((Try.prog.info? 95).bind (·.zero)).isSome = true := by kernel_rfl
theorem sz96 : (Try.prog.info? 96).map (·.size) = some 1 := by kernel_rfl
theorem inf96 : (Try.prog.info? 96).map (fun i => (i.zero, i.size, i.bytes)) = some (some (.nilFunc), 1, 8) := by kernel_rfl
theorem zr96 : ((Try.prog.info? 96).bind (·.zero)).isSome = true := by kernel_rfl
theorem sz97 : (Try.prog.info? 97).map (·.size) = some 1 := by kernel_rfl
theorem inf97 : (Try.prog.info? 97).map (fun i => (i.zero, i.size, i.bytes)) = some (some (.nilFunc), 1, 8) := by kernel_rfl
theorem zr97 : ((Try.prog.info? 97).bind (·.zero)).isSome = true := by kernel_rfl
theorem sz98 : (Try.prog.info? 98).map (·.size) = some 1 := by kernel_rfl
theorem inf98 : (Try.prog.info? 98).map (fun i => (i.zero, i.size, i.bytes)) = some (some (.nilFunc), 1, 8) := by kernel_rfl
theorem zr98 : ((Try.prog.info? 98).bind (·.zero)).isSome = true := by kernel_rfl
theorem sz100 : (Try.prog.info? 100).map (·.size) = some 1 := by kernel_rfl
theorem inf100 : (Try.prog.info? 100).map (fun i => (i.zero, i.size, i.bytes)) = some (some (.nilFunc), 1, 8) := by kernel_rfl
theorem zr100 : ((Try.prog.info? 100).bind (·.zero)).isSome = true := by kernel_rfl
theorem sz101 : (Try.prog.info? 101).map (·.size) = some 1 := by kernel_rfl
theorem inf101 : (Try.prog.info? 101).map (fun i => (i.zero, i.size, i.bytes)) = some (some (.nilFunc), 1, 8) := by kernel_rfl
theorem zr101 : ((Try.prog.info? 101).bind (·.zero)).isSome = true := by kernel_rfl
theorem sz102 : (Try.prog.info? 102).map (·.size) = some 1 := by kernel_rfl
theorem inf102 : (Try.prog.info? 102).map (fun i => (i.zero, i.size, i.bytes)) = some (some (.int .u32 0), 1, 4) := by kernel_rfl
theorem zr102 : ((Try.prog.info? 102).bind (·.zero)).isSome = true := by kernel_rfl
theorem sz103 : (Try.prog.info? 103).map (·.size) = some 1 := by kernel_rfl
theorem inf103 : (Try.prog.info? 103).map (fun i => (i.zero, i.size, i.bytes)) = some (some (.nilFunc), 1, 8) := by kernel_rfl
theorem zr103 : ((Try.prog.info? 103).bind (·.zero)).isSome = true := by kernel_rfl
theorem sz104 : (Try.prog.info? 104).map (·.size) = some 1 := by kernel_rfl
theorem inf104 : (Try.prog.info? 104).map (fun i => (i.zero, i.size, i.bytes)) = some (some (.int .u64 0), 1, 8) := by kernel_rfl
theorem zr104 : ((Try.prog.info? 104).bind (·.zero)).isSome = true := by kernel_rfl
theorem sz105 : (Try.prog.info? 105).map (·.size) = some 1 := by kernel_rfl
theorem inf105 : (Try.prog.info? 105).map (fun i => (i.zero, i.size, i.bytes)) = some (some (.int .u64 0), 1, 8) := by kernel_rfl
theorem zr105 : ((Try.prog.info? 105).bind (·.zero)).isSome = true := by kernel_rfl
theorem sz106 : (Try.prog.info? 106).map (·.size) = some 1 := by kernel_rfl
theorem inf106 : (Try.prog.info? 106).map (fun i => (i.zero, i.size, i.bytes)) = some (some (.nilFunc), 1, 8) := by kernel_rfl
theorem zr106 : ((Try.prog.info? 106).bind (·.zero)).isSome = true := by kernel_rfl
theorem sz107 : (Try.prog.info? 107).map (·.size) = some 1 := by kernel_rfl
theorem inf107 : (Try.prog.info? 107).map (fun i => (i.zero, i.size, i.bytes)) = some (some (.nilFunc), 1, 8) := by kernel_rfl
theorem zr107 : ((Try.prog.info? 107).bind (·.zero)).isSome = true := by kernel_rfl
theorem sz108 : (Try.prog.info? 108).map (·.size) = some 1 := by kernel_rfl
theorem inf108 : (Try.prog.info? 108).map (fun i => (i.zero, i.size, i.bytes)) = some (some (.nilFunc), 1, 8) := by kernel_rfl
theorem zr108 : ((Try.prog.info? 108).bind (·.zero)).isSome = true := by kernel_rfl
theorem sz109 : (Try.prog.info? 109).map (·.size) = some 1 := by kernel_rfl
theorem inf109 : (Try.prog.info? 109).map (fun i => (i.zero, i.size, i.bytes)) = some (some (.pointer none), 1, 8) := by kernel_rfl
theorem zr109 : ((Try.prog.info? 109).bind (·.zero)).isSome = true := by kernel_rfl
theorem sz110 : (Try.prog.info? 110).map (·.size) = some 1 := by kernel_rfl
theorem inf110 : (Try.prog.info? 110).map (fun i => (i.zero, i.size, i.bytes)) = some (some (.nilFunc), 1, 8) := by kernel_rfl
theorem zr110 : ((Try.prog.info? 110).bind (·.zero)).isSome = true := by kernel_rfl
theorem sz111 : (Try.prog.info? 111).map (·.size) = some 1 := by kernel_rfl
theorem inf111 : (Try.prog.info? 111).map (fun i => (i.zero, i.size, i.bytes)) = some (some (.pointer none), 1, 8) := by kernel_rfl
theorem zr111 : ((Try.prog.info? 111).bind (·.zero)).isSome = true := by kernel_rfl
theorem sz113 : (Try.prog.info? 113).map (·.size) = some 1 := by kernel_rfl
theorem inf113 : (Try.prog.info? 113).map (fun i => (i.zero, i.size, i.bytes)) = some (some (.nilFunc), 1, 8) := by kernel_rfl
theorem zr113 : ((Try.prog.info? 113).bind (·.zero)).isSome = true := by kernel_rfl
theorem sz114 : (Try.prog.info? 114).map (·.size) = some 1 := by kernel_rfl
theorem inf114 : (Try.prog.info? 114).map (fun i => (i.zero, i.size, i.bytes)) = some (some (.nilFunc), 1, 8) := by kernel_rfl
theorem zr114 : ((Try.prog.info? 114).bind (·.zero)).isSome = true := by kernel_rfl
theorem sz115 : (Try.prog.info? 115).map (·.size) = some 4 := by kernel_rfl
theorem sz116 : (Try.prog.info? 116).map (·.size) = some 4 := by kernel_rfl
theorem sz120 : (Try.prog.info? 120).map (·.size) = some 1 := by kernel_rfl
theorem inf120 : (Try.prog.info? 120).map (fun i => (i.zero, i.size, i.bytes)) = some (some (.int .u8 0), 1, 1) := by kernel_rfl
theorem zr120 : ((Try.prog.info? 120).bind (·.zero)).isSome = true := by kernel_rfl
theorem sz121 : (Try.prog.info? 121).map (·.size) = some 1 := by kernel_rfl
theorem inf121 : (Try.prog.info? 121).map (fun i => (i.zero, i.size, i.bytes)) = some (some (.int .u8 0), 1, 1) := by kernel_rfl
theorem zr121 : ((Try.prog.info? 121).bind (·.zero)).isSome = true := by kernel_rfl
theorem sz122 : (Try.prog.info? 122).map (·.size) = some 1 := by kernel_rfl
theorem inf122 : (Try.prog.info? 122).map (fun i => (i.zero, i.size, i.bytes)) = some (some (.nilFunc), 1, 8) := by kernel_rfl
theorem zr122 : ((Try.prog.info? 122).bind (·.zero)).isSome = true := by kernel_rfl
theorem sz123 : (Try.prog.info? 123).map (·.size) = some 1 := by kernel_rfl
theorem inf123 : (Try.prog.info? 123).map (fun i => (i.zero, i.size, i.bytes)) = some (some (.pointer none), 1, 8) := by kernel_rfl
theorem zr123 : ((Try.prog.info? 123).bind (·.zero)).isSome = true := by kernel_rfl
theorem sz124 : (Try.prog.info? 124).map (·.size) = some 1 := by kernel_rfl
theorem inf124 : (Try.prog.info? 124).map (fun i => (i.zero, i.size, i.bytes)) = some (some (.int .i32 0), 1, 4) := by kernel_rfl
theorem zr124 : ((Try.prog.info? 124).bind (·.zero)).isSome = true := by kernel_rfl
theorem sz125 : (Try.prog.info? 125).map (·.size) = some 1 := by kernel_rfl
theorem inf125 : (Try.prog.info? 125).map (fun i => (i.zero, i.size, i.bytes)) = some (some (.int .i32 0), 1, 4) := by kernel_rfl
theorem zr125 : ((Try.prog.info? 125).bind (·.zero)).isSome = true := by kernel_rfl
theorem sz126 : (Try.prog.info? 126).map (·.size) = some 11 := by kernel_rfl
theorem sz127 : (Try.prog.info? 127).map (·.size) = some 11 := by kernel_rfl
theorem sz128 : (Try.prog.info? 128).map (·.size) = some 1 := by kernel_rfl
theorem zero1 : (Try.prog.info? 1).map (·.zero) = some (some (.nilFunc)) := by kernel_rfl
theorem zero2 : (Try.prog.info? 2).map (·.zero) = some (some (.int .i64 (0))) := by kernel_rfl
theorem zero3 : (Try.prog.info? 3).map (·.zero) = some (some (.int .i64 (0))) := by kernel_rfl
theorem zero4 : (Try.prog.info? 4).map (·.zero) = some (some (.bool false)) := by kernel_rfl
theorem zero5 : (Try.prog.info? 5).map (·.zero) = some (some (.int .u8 (0))) := by kernel_rfl
theorem zero6 : (Try.prog.info? 6).map (·.zero) = some (some (.int .u8 (0))) := by kernel_rfl
theorem inf7 : (Try.prog.info? 7).map (fun i => (i.zero, i.size, i.bytes)) = some (some (.agg #[.int .i64 (0), .int .i64 (0), .bool false, .int .u8 (0)]), 4, 24) := by kernel_rfl
theorem zero7 : (Try.prog.info? 7).map (·.zero) = some (some (.agg #[.int .i64 (0), .int .i64 (0), .bool false, .int .u8 (0)])) := by kernel_rfl
theorem inf8 : (Try.prog.info? 8).map (fun i => (i.zero, i.size, i.bytes)) = some (some (.agg #[.int .i64 (0), .int .i64 (0), .bool false, .int .u8 (0)]), 4, 24) := by kernel_rfl
theorem zero8 : (Try.prog.info? 8).map (·.zero) = some (some (.agg #[.int .i64 (0), .int .i64 (0), .bool false, .int .u8 (0)])) := by kernel_rfl
theorem zero9 : (Try.prog.info? 9).map (·.zero) = some (some (.string ByteArray.empty)) := by kernel_rfl
theorem zero10 : (Try.prog.info? 10).map (·.zero) = some (some (.string ByteArray.empty)) := by kernel_rfl
theorem zero11 : (Try.prog.info? 11).map (·.zero) = some (some (.string ByteArray.empty)) := by kernel_rfl
theorem zero12 : (Try.prog.info? 12).map (·.zero) = some (some (.int .u64 (0))) := by kernel_rfl
theorem inf13 : (Try.prog.info? 13).map (fun i => (i.zero, i.size, i.bytes)) = some (some (.agg #[.string ByteArray.empty, .int .u64 (0)]), 2, 24) := by kernel_rfl
theorem zero13 : (Try.prog.info? 13).map (·.zero) = some (some (.agg #[.string ByteArray.empty, .int .u64 (0)])) := by kernel_rfl
theorem inf14 : (Try.prog.info? 14).map (fun i => (i.zero, i.size, i.bytes)) = some (some (.agg #[.string ByteArray.empty, .int .u64 (0)]), 2, 24) := by kernel_rfl
theorem zero14 : (Try.prog.info? 14).map (·.zero) = some (some (.agg #[.string ByteArray.empty, .int .u64 (0)])) := by kernel_rfl
theorem zero15 : (Try.prog.info? 15).map (·.zero) = some (some (.pointer none)) := by kernel_rfl
theorem zero16 : (Try.prog.info? 16).map (·.zero) = some (some (.pointer none)) := by kernel_rfl
theorem zero17 : (Try.prog.info? 17).map (·.zero) = some (some (.pointer none)) := by kernel_rfl
theorem inf18 : (Try.prog.info? 18).map (fun i => (i.zero, i.size, i.bytes)) = some (some (.agg #[.pointer none]), 1, 8) := by kernel_rfl
theorem zero18 : (Try.prog.info? 18).map (·.zero) = some (some (.agg #[.pointer none])) := by kernel_rfl
theorem inf19 : (Try.prog.info? 19).map (fun i => (i.zero, i.size, i.bytes)) = some (some (.agg #[.pointer none]), 1, 8) := by kernel_rfl
theorem zero19 : (Try.prog.info? 19).map (·.zero) = some (some (.agg #[.pointer none])) := by kernel_rfl
theorem zero21 : (Try.prog.info? 21).map (·.zero) = some (some (.int .i32 (0))) := by kernel_rfl
theorem zero22 : (Try.prog.info? 22).map (·.zero) = some (some (.slice none 0 0)) := by kernel_rfl
theorem zero23 : (Try.prog.info? 23).map (·.zero) = some (some (.slice none 0 0)) := by kernel_rfl
theorem zero24 : (Try.prog.info? 24).map (·.zero) = some (some (.slice none 0 0)) := by kernel_rfl
theorem zero25 : (Try.prog.info? 25).map (·.zero) = some (some (.nilFunc)) := by kernel_rfl
theorem zero26 : (Try.prog.info? 26).map (·.zero) = some (some (.nilFunc)) := by kernel_rfl
theorem zero27 : (Try.prog.info? 27).map (·.zero) = some (some (.pointer none)) := by kernel_rfl
theorem zero28 : (Try.prog.info? 28).map (·.zero) = some (some (.nilFunc)) := by kernel_rfl
theorem zero29 : (Try.prog.info? 29).map (·.zero) = some (some (.nilFunc)) := by kernel_rfl
theorem zero30 : (Try.prog.info? 30).map (·.zero) = some (some (.int .i64 (0))) := by kernel_rfl
theorem zero31 : (Try.prog.info? 31).map (·.zero) = some (some (.nilFunc)) := by kernel_rfl
theorem inf32 : (Try.prog.info? 32).map (fun i => (i.zero, i.size, i.bytes)) = some (some (.agg #[.int .i64 (0), .string ByteArray.empty, .string ByteArray.empty, .slice none 0 0]), 4, 64) := by kernel_rfl
theorem zero32 : (Try.prog.info? 32).map (·.zero) = some (some (.agg #[.int .i64 (0), .string ByteArray.empty, .string ByteArray.empty, .slice none 0 0])) := by kernel_rfl
theorem inf33 : (Try.prog.info? 33).map (fun i => (i.zero, i.size, i.bytes)) = some (some (.agg #[.int .i64 (0), .string ByteArray.empty, .string ByteArray.empty, .slice none 0 0]), 4, 64) := by kernel_rfl
theorem zero33 : (Try.prog.info? 33).map (·.zero) = some (some (.agg #[.int .i64 (0), .string ByteArray.empty, .string ByteArray.empty, .slice none 0 0])) := by kernel_rfl
theorem zero35 : (Try.prog.info? 35).map (·.zero) = some (some (.nilFunc)) := by kernel_rfl
theorem zero36 : (Try.prog.info? 36).map (·.zero) = some (some (.slice none 0 0)) := by kernel_rfl
theorem zero37 : (Try.prog.info? 37).map (·.zero) = some (some (.nilFunc)) := by kernel_rfl
theorem zero38 : (Try.prog.info? 38).map (·.zero) = some (some (.nilFunc)) := by kernel_rfl
theorem zero39 : (Try.prog.info? 39).map (·.zero) = some (some (.nilFunc)) := by kernel_rfl
theorem zero40 : (Try.prog.info? 40).map (·.zero) = some (some (.nilFunc)) := by kernel_rfl
theorem zero41 : (Try.prog.info? 41).map (·.zero) = some (some (.nilFunc)) := by kernel_rfl
theorem zero42 : (Try.prog.info? 42).map (·.zero) = some (some (.nilFunc)) := by kernel_rfl
theorem zero43 : (Try.prog.info? 43).map (·.zero) = some (some (.slice none 0 0)) := by kernel_rfl
theorem inf44 : (Try.prog.info? 44).map (fun i => (i.zero, i.size, i.bytes)) = some (some (.agg #[.int .i64 (0), .slice none 0 0]), 2, 32) := by kernel_rfl
theorem zero44 : (Try.prog.info? 44).map (·.zero) = some (some (.agg #[.int .i64 (0), .slice none 0 0])) := by kernel_rfl
theorem inf45 : (Try.prog.info? 45).map (fun i => (i.zero, i.size, i.bytes)) = some (some (.agg #[.int .i64 (0), .slice none 0 0]), 2, 32) := by kernel_rfl
theorem zero45 : (Try.prog.info? 45).map (·.zero) = some (some (.agg #[.int .i64 (0), .slice none 0 0])) := by kernel_rfl
theorem zero47 : (Try.prog.info? 47).map (·.zero) = some (some (.nilFunc)) := by kernel_rfl
theorem zero49 : (Try.prog.info? 49).map (·.zero) = some (some (.nilFunc)) := by kernel_rfl
theorem zero51 : (Try.prog.info? 51).map (·.zero) = some (some (.nilFunc)) := by kernel_rfl
theorem zero52 : (Try.prog.info? 52).map (·.zero) = some (some (.nilFunc)) := by kernel_rfl
theorem zero53 : (Try.prog.info? 53).map (·.zero) = some (some (.nilFunc)) := by kernel_rfl
theorem zero54 : (Try.prog.info? 54).map (·.zero) = some (some (.nilFunc)) := by kernel_rfl
theorem zero55 : (Try.prog.info? 55).map (·.zero) = some (some (.nilFunc)) := by kernel_rfl
theorem zero56 : (Try.prog.info? 56).map (·.zero) = some (some (.nilFunc)) := by kernel_rfl
theorem zero57 : (Try.prog.info? 57).map (·.zero) = some (some (.nilFunc)) := by kernel_rfl
theorem zero58 : (Try.prog.info? 58).map (·.zero) = some (some (.nilFunc)) := by kernel_rfl
theorem zero59 : (Try.prog.info? 59).map (·.zero) = some (some (.nilFunc)) := by kernel_rfl
theorem zero60 : (Try.prog.info? 60).map (·.zero) = some (some (.nilFunc)) := by kernel_rfl
theorem zero61 : (Try.prog.info? 61).map (·.zero) = some (some (.nilFunc)) := by kernel_rfl
theorem zero62 : (Try.prog.info? 62).map (·.zero) = some (some (.map none)) := by kernel_rfl
theorem inf63 : (Try.prog.info? 63).map (fun i => (i.zero, i.size, i.bytes)) = some (some (.agg #[.int .i64 (0), .map none]), 2, 16) := by kernel_rfl
theorem zero63 : (Try.prog.info? 63).map (·.zero) = some (some (.agg #[.int .i64 (0), .map none])) := by kernel_rfl
theorem inf64 : (Try.prog.info? 64).map (fun i => (i.zero, i.size, i.bytes)) = some (some (.agg #[.int .i64 (0), .map none]), 2, 16) := by kernel_rfl
theorem zero64 : (Try.prog.info? 64).map (·.zero) = some (some (.agg #[.int .i64 (0), .map none])) := by kernel_rfl
theorem zero65 : (Try.prog.info? 65).map (·.zero) = some (some (.nilFunc)) := by kernel_rfl
theorem zero66 : (Try.prog.info? 66).map (·.zero) = some (some (.pointer none)) := by kernel_rfl
theorem zero68 : (Try.prog.info? 68).map (·.zero) = some (some (.nilFunc)) := by kernel_rfl
theorem zero69 : (Try.prog.info? 69).map (·.zero) = some (some (.slice none 0 0)) := by kernel_rfl
theorem inf70 : (Try.prog.info? 70).map (fun i => (i.zero, i.size, i.bytes)) = some (some (.agg #[.slice none 0 0, .slice none 0 0]), 2, 48) := by kernel_rfl
theorem zero70 : (Try.prog.info? 70).map (·.zero) = some (some (.agg #[.slice none 0 0, .slice none 0 0])) := by kernel_rfl
theorem inf71 : (Try.prog.info? 71).map (fun i => (i.zero, i.size, i.bytes)) = some (some (.agg #[.slice none 0 0, .slice none 0 0]), 2, 48) := by kernel_rfl
theorem zero71 : (Try.prog.info? 71).map (·.zero) = some (some (.agg #[.slice none 0 0, .slice none 0 0])) := by kernel_rfl
theorem zero72 : (Try.prog.info? 72).map (·.zero) = some (some (.nilFunc)) := by kernel_rfl
theorem zero73 : (Try.prog.info? 73).map (·.zero) = some (some (.nilFunc)) := by kernel_rfl
theorem zero74 : (Try.prog.info? 74).map (·.zero) = some (some (.nilFunc)) := by kernel_rfl
theorem zero75 : (Try.prog.info? 75).map (·.zero) = some (some (.nilFunc)) := by kernel_rfl
theorem zero76 : (Try.prog.info? 76).map (·.zero) = some (some (.nilFunc)) := by kernel_rfl
theorem inf77 : (Try.prog.info? 77).map (fun i => (i.zero, i.size, i.bytes)) = some (some (.agg #[.string ByteArray.empty, .slice none 0 0, .slice none 0 0]), 3, 64) := by kernel_rfl
theorem zero77 : (Try.prog.info? 77).map (·.zero) = some (some (.agg #[.string ByteArray.empty, .slice none 0 0, .slice none 0 0])) := by kernel_rfl
theorem inf78 : (Try.prog.info? 78).map (fun i => (i.zero, i.size, i.bytes)) = some (some (.agg #[.string ByteArray.empty, .slice none 0 0, .slice none 0 0]), 3, 64) := by kernel_rfl
theorem zero78 : (Try.prog.info? 78).map (·.zero) = some (some (.agg #[.string ByteArray.empty, .slice none 0 0, .slice none 0 0])) := by kernel_rfl
theorem zero80 : (Try.prog.info? 80).map (·.zero) = some (some (.nilFunc)) := by kernel_rfl
theorem zero81 : (Try.prog.info? 81).map (·.zero) = some (some (.nilFunc)) := by kernel_rfl
theorem zero82 : (Try.prog.info? 82).map (·.zero) = some (some (.nilFunc)) := by kernel_rfl
theorem zero83 : (Try.prog.info? 83).map (·.zero) = some (some (.nilFunc)) := by kernel_rfl
theorem zero84 : (Try.prog.info? 84).map (·.zero) = some (some (.nilFunc)) := by kernel_rfl
theorem zero85 : (Try.prog.info? 85).map (·.zero) = some (some (.nilFunc)) := by kernel_rfl
theorem zero86 : (Try.prog.info? 86).map (·.zero) = some (some (.nilFunc)) := by kernel_rfl
theorem zero87 : (Try.prog.info? 87).map (·.zero) = some (some (.nilFunc)) := by kernel_rfl
theorem zero88 : (Try.prog.info? 88).map (·.zero) = some (some (.nilFunc)) := by kernel_rfl
theorem zero89 : (Try.prog.info? 89).map (·.zero) = some (some (.nilFunc)) := by kernel_rfl
theorem zero90 : (Try.prog.info? 90).map (·.zero) = some (some (.nilFunc)) := by kernel_rfl
theorem zero91 : (Try.prog.info? 91).map (·.zero) = some (some (.int .u64 (0))) := by kernel_rfl
theorem zero92 : (Try.prog.info? 92).map (·.zero) = some (some (.nilFunc)) := by kernel_rfl
theorem zero93 : (Try.prog.info? 93).map (·.zero) = some (some (.int .i64 (0))) := by kernel_rfl
theorem zero95 : (Try.prog.info? 95).map (·.zero) = some (some (.nilFunc)) := by kernel_rfl
theorem zero96 : (Try.prog.info? 96).map (·.zero) = some (some (.nilFunc)) := by kernel_rfl
theorem zero97 : (Try.prog.info? 97).map (·.zero) = some (some (.nilFunc)) := by kernel_rfl
theorem zero98 : (Try.prog.info? 98).map (·.zero) = some (some (.nilFunc)) := by kernel_rfl
theorem zero100 : (Try.prog.info? 100).map (·.zero) = some (some (.nilFunc)) := by kernel_rfl
theorem zero101 : (Try.prog.info? 101).map (·.zero) = some (some (.nilFunc)) := by kernel_rfl
theorem zero102 : (Try.prog.info? 102).map (·.zero) = some (some (.int .u32 (0))) := by kernel_rfl
theorem zero103 : (Try.prog.info? 103).map (·.zero) = some (some (.nilFunc)) := by kernel_rfl
theorem zero104 : (Try.prog.info? 104).map (·.zero) = some (some (.int .u64 (0))) := by kernel_rfl
theorem zero105 : (Try.prog.info? 105).map (·.zero) = some (some (.int .u64 (0))) := by kernel_rfl
theorem zero106 : (Try.prog.info? 106).map (·.zero) = some (some (.nilFunc)) := by kernel_rfl
theorem zero107 : (Try.prog.info? 107).map (·.zero) = some (some (.nilFunc)) := by kernel_rfl
theorem zero108 : (Try.prog.info? 108).map (·.zero) = some (some (.nilFunc)) := by kernel_rfl
theorem zero109 : (Try.prog.info? 109).map (·.zero) = some (some (.pointer none)) := by kernel_rfl
theorem zero110 : (Try.prog.info? 110).map (·.zero) = some (some (.nilFunc)) := by kernel_rfl
theorem zero111 : (Try.prog.info? 111).map (·.zero) = some (some (.pointer none)) := by kernel_rfl
theorem zero113 : (Try.prog.info? 113).map (·.zero) = some (some (.nilFunc)) := by kernel_rfl
theorem zero114 : (Try.prog.info? 114).map (·.zero) = some (some (.nilFunc)) := by kernel_rfl
theorem inf115 : (Try.prog.info? 115).map (fun i => (i.zero, i.size, i.bytes)) = some (some (.agg #[.pointer none, .pointer none, .pointer none, .string ByteArray.empty]), 4, 40) := by kernel_rfl
theorem zero115 : (Try.prog.info? 115).map (·.zero) = some (some (.agg #[.pointer none, .pointer none, .pointer none, .string ByteArray.empty])) := by kernel_rfl
theorem inf116 : (Try.prog.info? 116).map (fun i => (i.zero, i.size, i.bytes)) = some (some (.agg #[.pointer none, .pointer none, .pointer none, .string ByteArray.empty]), 4, 40) := by kernel_rfl
theorem zero116 : (Try.prog.info? 116).map (·.zero) = some (some (.agg #[.pointer none, .pointer none, .pointer none, .string ByteArray.empty])) := by kernel_rfl
theorem inf117 : (Try.prog.info? 117).map (fun i => (i.zero, i.size, i.bytes)) = some (some (.agg #[]), 0, 0) := by kernel_rfl
theorem zero117 : (Try.prog.info? 117).map (·.zero) = some (some (.agg #[])) := by kernel_rfl
theorem inf118 : (Try.prog.info? 118).map (fun i => (i.zero, i.size, i.bytes)) = some (some (.agg #[]), 0, 0) := by kernel_rfl
theorem zero118 : (Try.prog.info? 118).map (·.zero) = some (some (.agg #[])) := by kernel_rfl
theorem inf119 : (Try.prog.info? 119).map (fun i => (i.zero, i.size, i.bytes)) = some (some (.agg #[]), 0, 0) := by kernel_rfl
theorem zero119 : (Try.prog.info? 119).map (·.zero) = some (some (.agg #[])) := by kernel_rfl
theorem zero120 : (Try.prog.info? 120).map (·.zero) = some (some (.int .u8 (0))) := by kernel_rfl
theorem zero121 : (Try.prog.info? 121).map (·.zero) = some (some (.int .u8 (0))) := by kernel_rfl
theorem zero122 : (Try.prog.info? 122).map (·.zero) = some (some (.nilFunc)) := by kernel_rfl
theorem zero123 : (Try.prog.info? 123).map (·.zero) = some (some (.pointer none)) := by kernel_rfl
theorem zero124 : (Try.prog.info? 124).map (·.zero) = some (some (.int .i32 (0))) := by kernel_rfl
theorem zero125 : (Try.prog.info? 125).map (·.zero) = some (some (.int .i32 (0))) := by kernel_rfl
theorem inf126 : (Try.prog.info? 126).map (fun i => (i.zero, i.size, i.bytes)) = some (some (.agg #[.int .u64 (0), .int .u64 (0), .int .u32 (0), .int .u8 (0), .int .u8 (0), .int .u8 (0), .int .u8 (0), .nilFunc, .pointer none, .int .i32 (0), .int .i32 (0)]), 11, 48) := by kernel_rfl
theorem zero126 : (Try.prog.info? 126).map (·.zero) = some (some (.agg #[.int .u64 (0), .int .u64 (0), .int .u32 (0), .int .u8 (0), .int .u8 (0), .int .u8 (0), .int .u8 (0), .nilFunc, .pointer none, .int .i32 (0), .int .i32 (0)])) := by kernel_rfl
theorem inf127 : (Try.prog.info? 127).map (fun i => (i.zero, i.size, i.bytes)) = some (some (.agg #[.int .u64 (0), .int .u64 (0), .int .u32 (0), .int .u8 (0), .int .u8 (0), .int .u8 (0), .int .u8 (0), .nilFunc, .pointer none, .int .i32 (0), .int .i32 (0)]), 11, 48) := by kernel_rfl
theorem zero127 : (Try.prog.info? 127).map (·.zero) = some (some (.agg #[.int .u64 (0), .int .u64 (0), .int .u32 (0), .int .u8 (0), .int .u8 (0), .int .u8 (0), .int .u8 (0), .nilFunc, .pointer none, .int .i32 (0), .int .i32 (0)])) := by kernel_rfl
end Go.Proofs.Ytlblpiapeieofaa
